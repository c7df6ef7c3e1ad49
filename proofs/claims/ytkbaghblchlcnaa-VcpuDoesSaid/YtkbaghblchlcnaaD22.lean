/- Texts of this claim, put together: Vk, Vl, Vn, Vo. -/
import Derived.Test.YtkbaghblchlcnaaD21
import Derived.Test.YtkbaghblchlcnaaD19
import Derived.Deep.RegionHeld3
import Derived.Deep.RegionWith
import Derived.Laws.CopyRow
import Derived.Laws.Append
import Derived.RegionTactic
import Derived.ChangeAlike
namespace Go.Proofs.Ytkbaghblchlcnaa.Lr
open Go.RowKit Go.Shelf Go.Proofs.YtkbaghblchlcnaaW.PrintWords Go.Proofs.Ytkbaghblchlcnaa.IAll
attribute [local go_sem] Oper.semAt_some cell_row frozen_row isRow_setCell_eq rowAt_setCell_same rowAt_setCell_other isRow_alloc_eq rowAt_alloc rowAt_new rowAt_new' isRow_setRow_eq rowAt_setRow_same rowAt_setRow_other isRow_drew rowAt_drew size_setRow_ Lb_size Lb_at blk_ptr aggOf_agg below_alloc_e below_setCell_e below_setRow_e below_refl_e below_drew_r aside2_alloc_e aside2_setCell_e aside2_setRow_e aside2_drew_e aside2_refl_e aside2_drewN_e isRow_drewN rowAt_drewN below_drewN_e le_add_r offv_ptr one_lad zero_lad allOne_nil allOne_cons Value.oneCell' addr_at FA_size one_FA RV_size RV_get70 RV_get71 RV_at70 RV_at71 RV_at5 RV_low RV_set71 RV_ext RV_spl RC_size zeroF zero_rc zero_rc2 RC_one
attribute [local go_sem ↓] storeI storeC storeE loadF0 storeF0 loadF storeF
attribute [local go_sem] eq2i eq2b eq2u
set_option maxRecDepth 100000 in
set_option maxHeartbeats 4000000 in
theorem rdo_a0 (g bl : Nat) (R : Array Value) (hR : R.size = 70) (n : Nat) (C : Array Value) (lost : Int) (R' : Array Value) (C' : Array Value) (lost' : Int) (w : World) (hr : isRow w g) (hr' : rowAt w g = (RV R (.slice (some ⟨bl, 0, none⟩) n n) (.int .i64 lost))) (hl : isRow w bl) (hl' : rowAt w bl = C) (hne : ¬ g = bl) (hne' : ¬ bl = g) (x y : Int) (x0 : 0 ≤ x) (hy : x % 16777216 = y) (y0 : 0 ≤ y) (y1 : y ≤ 16777215) (id : Int) (HA : Hid (∀ W : World, isRow W g → rowAt W g = (RV R (.slice (some ⟨bl, 0, none⟩) n n) (.int .i64 lost)) → isRow W bl → rowAt W bl = C → Calls Try.prog 84 #[.pointer (some ⟨g, 0, none⟩), .int .i64 0] W fun e w' => e = .returned (.int .i64 id) ∧ Row w' g (RV R' (.slice (some ⟨bl, 0, none⟩) n n) (.int .i64 lost')) ∧ Row w' bl C' ∧ Aside2 g bl W w')) :
    Calls Try.prog 64 #[.pointer (some ⟨g, 0, none⟩), .int .i64 1, .bool false, .int .u64 x] w fun e w' => e = .returned (.tuple #[.int .u64 (IntKind.u64.wrap id), .bool false, .int .i64 (-1), .bool true]) ∧ Row w' g (RV R' (.slice (some ⟨bl, 0, none⟩) n n) (.int .i64 lost')) ∧ Row w' bl C' ∧ Aside2 g bl w w' := by
  have _u : True := by have _ := hne; have _ := hne'; have _ := y0; have _ := y1; have _ := x0; have _ := hy; have _ := hR; trivial
  clear _u
  have hX : Aside2 g bl w w := .of_below (Below.refl _ _)
  have lr := hr.lt
  have ll := hl.lt
  have nr : ¬ g = w.heap.size := by omega
  have rn : ¬ w.heap.size = g := by omega
  have nl : ¬ bl = w.heap.size := by omega
  have ln : ¬ w.heap.size = bl := by omega
  have hB_0 : Below w.heap.size w w := Below.refl _ _
  go_enter Try.func64, Try.ntmps64
  go_wp2_with fail
  refine (HA.out _ (by go_simp) (by go_simp) (by go_simp) (by go_simp)).mono ?_
  rintro e v1 ⟨rfl, ⟨V_1, V_1'⟩, ⟨L_1, L_1'⟩, hA1⟩
  have hB_1 : Aside2 g bl w v1 := Aside2.trans (by go_simp) hA1
  clear hr hr' hl hl' hX hA1
  have hz_1 : w.heap.size ≤ v1.heap.size := hB_1.size
  have hl_V_1 := isRow.lt V_1
  have hl_L_1 := isRow.lt L_1
  go_wp2
  exact bodyPost_ret (v := .tuple #[.int .u64 (IntKind.u64.wrap id), .bool false, .int .i64 (-1), .bool true]) (by simp [results, Try.results64, go_sem]) rfl ⟨rfl, ⟨by go_simp, by go_simp⟩, ⟨by go_simp, by go_simp⟩, by go_simp⟩
set_option maxRecDepth 100000 in
set_option maxHeartbeats 4000000 in
theorem rdo_a1 (g bl : Nat) (R : Array Value) (hR : R.size = 70) (n : Nat) (C : Array Value) (lost : Int) (R' : Array Value) (C' : Array Value) (lost' : Int) (w : World) (hr : isRow w g) (hr' : rowAt w g = (RV R (.slice (some ⟨bl, 0, none⟩) n n) (.int .i64 lost))) (hl : isRow w bl) (hl' : rowAt w bl = C) (hne : ¬ g = bl) (hne' : ¬ bl = g) (x y : Int) (x0 : 0 ≤ x) (hy : x % 16777216 = y) (y0 : 0 ≤ y) (y1 : y ≤ 16777215) (id : Int) (HA : Hid (∀ W : World, isRow W g → rowAt W g = (RV R (.slice (some ⟨bl, 0, none⟩) n n) (.int .i64 lost)) → isRow W bl → rowAt W bl = C → Calls Try.prog 84 #[.pointer (some ⟨g, 0, none⟩), .int .i64 1] W fun e w' => e = .returned (.int .i64 id) ∧ Row w' g (RV R' (.slice (some ⟨bl, 0, none⟩) n n) (.int .i64 lost')) ∧ Row w' bl C' ∧ Aside2 g bl W w')) :
    Calls Try.prog 64 #[.pointer (some ⟨g, 0, none⟩), .int .i64 2, .bool false, .int .u64 x] w fun e w' => e = .returned (.tuple #[.int .u64 (IntKind.u64.wrap id), .bool false, .int .i64 (-1), .bool true]) ∧ Row w' g (RV R' (.slice (some ⟨bl, 0, none⟩) n n) (.int .i64 lost')) ∧ Row w' bl C' ∧ Aside2 g bl w w' := by
  have _u : True := by have _ := hne; have _ := hne'; have _ := y0; have _ := y1; have _ := x0; have _ := hy; have _ := hR; trivial
  clear _u
  have hX : Aside2 g bl w w := .of_below (Below.refl _ _)
  have lr := hr.lt
  have ll := hl.lt
  have nr : ¬ g = w.heap.size := by omega
  have rn : ¬ w.heap.size = g := by omega
  have nl : ¬ bl = w.heap.size := by omega
  have ln : ¬ w.heap.size = bl := by omega
  have hB_0 : Below w.heap.size w w := Below.refl _ _
  go_enter Try.func64, Try.ntmps64
  go_wp2_with fail
  refine (HA.out _ (by go_simp) (by go_simp) (by go_simp) (by go_simp)).mono ?_
  rintro e v1 ⟨rfl, ⟨V_1, V_1'⟩, ⟨L_1, L_1'⟩, hA1⟩
  have hB_1 : Aside2 g bl w v1 := Aside2.trans (by go_simp) hA1
  clear hr hr' hl hl' hX hA1
  have hz_1 : w.heap.size ≤ v1.heap.size := hB_1.size
  have hl_V_1 := isRow.lt V_1
  have hl_L_1 := isRow.lt L_1
  go_wp2
  exact bodyPost_ret (v := .tuple #[.int .u64 (IntKind.u64.wrap id), .bool false, .int .i64 (-1), .bool true]) (by simp [results, Try.results64, go_sem]) rfl ⟨rfl, ⟨by go_simp, by go_simp⟩, ⟨by go_simp, by go_simp⟩, by go_simp⟩
set_option maxRecDepth 100000 in
set_option maxHeartbeats 4000000 in
theorem rdo_s0 (g bl : Nat) (R : Array Value) (hR : R.size = 70) (n : Nat) (C : Array Value) (lost : Int)  (w : World) (hr : isRow w g) (hr' : rowAt w g = (RV R (.slice (some ⟨bl, 0, none⟩) n n) (.int .i64 lost))) (hl : isRow w bl) (hl' : rowAt w bl = C) (hne : ¬ g = bl) (hne' : ¬ bl = g) (x y : Int) (x0 : 0 ≤ x) (hy : x % 16777216 = y) (y0 : 0 ≤ y) (y1 : y ≤ 16777215) (id cid cpr cgr : Int) (cis : Bool) (HB : Hid (∀ W : World, isRow W bl → rowAt W bl = C → Calls Try.prog 58 #[.slice (some ⟨bl, 0, none⟩) n n] W fun e w' => e = .returned (.agg #[.int .i64 cid, .int .i64 cpr, .int .i64 cgr, .bool cis]) ∧ Below W.heap.size W w')) (HS : Hid (∀ W : World, Calls Try.prog 85 #[.agg R, .agg #[.int .i64 cid, .int .i64 cpr, .int .i64 cgr, .bool cis], .int .i64 0] W fun e w' => e = .returned (.int .i64 id) ∧ Below W.heap.size W w')) :
    Calls Try.prog 64 #[.pointer (some ⟨g, 0, none⟩), .int .i64 13, .bool false, .int .u64 x] w fun e w' => e = .returned (.tuple #[.int .u64 (IntKind.u64.wrap id), .bool false, .int .i64 (-1), .bool true]) ∧ Row w' g (RV R (.slice (some ⟨bl, 0, none⟩) n n) (.int .i64 lost)) ∧ Row w' bl C ∧ Aside2 g bl w w' := by
  have _u : True := by have _ := hne; have _ := hne'; have _ := y0; have _ := y1; have _ := x0; have _ := hy; have _ := hR; trivial
  clear _u
  have hX : Aside2 g bl w w := .of_below (Below.refl _ _)
  have lr := hr.lt
  have ll := hl.lt
  have nr : ¬ g = w.heap.size := by omega
  have rn : ¬ w.heap.size = g := by omega
  have nl : ¬ bl = w.heap.size := by omega
  have ln : ¬ w.heap.size = bl := by omega
  have hB_0 : Below w.heap.size w w := Below.refl _ _
  go_enter Try.func64, Try.ntmps64
  go_wp2_with fail
  refine wp_region_held_drew (S := fun w' => (isRow w' g ∧ rowAt w' g = (RV R (.slice (some ⟨bl, 0, none⟩) n n) (.int .i64 lost))) ∧ (isRow w' bl ∧ rowAt w' bl = C) ∧ Aside2 g bl w w') (by kernel_rfl) ⟨⟨by go_simp, by go_simp⟩, ⟨by go_simp, by go_simp⟩, by go_simp⟩ (fun hHeld => ?_)
  refine wpAnyH_take (i := 0) (oi := { dst := some 41, op := Op.move (Operand.tmp 0), type := 75, pos := "ref.go:127", after := #[], guard := none }) (v := ?_) rfl (by kernel_rfl) (by kernel_rfl) (by kernel_rfl) (fun _ _ _ h => h) (Or.inl ⟨by rfl, ?_⟩) (by assumption) ?_
  rotate_left
  · (intro w_ hS_; (try dsimp only at hS_); go_simp; try with_reducible rfl)
  try simp only [Act.put, List.setIfInBounds_toArray, List.set_cons_zero, List.set_cons_succ]
  refine wpAnyH_take (i := 1) (oi := { dst := some 42, op := Op.nilCheck (Operand.tmp 41), type := 0, pos := "ref.go:127", after := #[{ on := 0, ground := Ground.data }], guard := none }) (v := ?_) rfl (by kernel_rfl) (by kernel_rfl) (by kernel_rfl) (fun _ _ _ h => h) (Or.inl ⟨by rfl, ?_⟩) (by assumption) ?_
  rotate_left
  · (intro w_ hS_; (try dsimp only at hS_); go_simp; try with_reducible rfl)
  try simp only [Act.put, List.setIfInBounds_toArray, List.set_cons_zero, List.set_cons_succ]
  refine wpAnyH_take (i := 2) (oi := { dst := some 43, op := Op.fieldAddr 110 (Operand.tmp 42) 0, type := 0, pos := "ref.go:127", after := #[{ on := 1, ground := Ground.data }], guard := none }) (v := ?_) rfl (by kernel_rfl) (by kernel_rfl) (by kernel_rfl) (fun _ _ _ h => h) (Or.inl ⟨by rfl, ?_⟩) (by assumption) ?_
  rotate_left
  · (intro w_ hS_; (try dsimp only at hS_); go_simp; try with_reducible rfl)
  try simp only [Act.put, List.setIfInBounds_toArray, List.set_cons_zero, List.set_cons_succ]
  refine wpAnyH_take (i := 3) (oi := { dst := some 44, op := Op.load 107 (Operand.tmp 43), type := 107, pos := "ref.go:127", after := #[{ on := 2, ground := Ground.data }], guard := none }) (v := ?_) rfl (by kernel_rfl) (by kernel_rfl) (by kernel_rfl) (fun _ _ _ h => h) (Or.inl ⟨by rfl, ?_⟩) (by assumption) ?_
  rotate_left
  · (intro w_ hS_; (try dsimp only at hS_); go_simp; try with_reducible rfl)
  try simp only [Act.put, List.setIfInBounds_toArray, List.set_cons_zero, List.set_cons_succ]
  refine wpAnyH_take (i := 4) (oi := { dst := some 45, op := Op.move (Operand.tmp 0), type := 75, pos := "ref.go:127", after := #[], guard := none }) (v := ?_) rfl (by kernel_rfl) (by kernel_rfl) (by kernel_rfl) (fun _ _ _ h => h) (Or.inl ⟨by rfl, ?_⟩) (by assumption) ?_
  rotate_left
  · (intro w_ hS_; (try dsimp only at hS_); go_simp; try with_reducible rfl)
  try simp only [Act.put, List.setIfInBounds_toArray, List.set_cons_zero, List.set_cons_succ]
  refine wpAnyH_take (i := 5) (oi := { dst := some 46, op := Op.nilCheck (Operand.tmp 45), type := 0, pos := "ref.go:127", after := #[{ on := 4, ground := Ground.data }], guard := none }) (v := ?_) rfl (by kernel_rfl) (by kernel_rfl) (by kernel_rfl) (fun _ _ _ h => h) (Or.inl ⟨by rfl, ?_⟩) (by assumption) ?_
  rotate_left
  · (intro w_ hS_; (try dsimp only at hS_); go_simp; try with_reducible rfl)
  try simp only [Act.put, List.setIfInBounds_toArray, List.set_cons_zero, List.set_cons_succ]
  refine wpAnyH_take (i := 6) (oi := { dst := some 47, op := Op.fieldAddr 110 (Operand.tmp 46) 1, type := 0, pos := "ref.go:127", after := #[{ on := 5, ground := Ground.data }], guard := none }) (v := ?_) rfl (by kernel_rfl) (by kernel_rfl) (by kernel_rfl) (fun _ _ _ h => h) (Or.inl ⟨by rfl, ?_⟩) (by assumption) ?_
  rotate_left
  · (intro w_ hS_; (try dsimp only at hS_); go_simp; try with_reducible rfl)
  try simp only [Act.put, List.setIfInBounds_toArray, List.set_cons_zero, List.set_cons_succ]
  refine wpAnyH_take (i := 7) (oi := { dst := some 48, op := Op.load 22 (Operand.tmp 47), type := 22, pos := "ref.go:127", after := #[{ on := 6, ground := Ground.data }], guard := none }) (v := ?_) rfl (by kernel_rfl) (by kernel_rfl) (by kernel_rfl) (fun _ _ _ h => h) (Or.inl ⟨by rfl, ?_⟩) (by assumption) ?_
  rotate_left
  · (intro w_ hS_; (try dsimp only at hS_); go_simp; try with_reducible rfl)
  try simp only [Act.put, List.setIfInBounds_toArray, List.set_cons_zero, List.set_cons_succ]
  refine wpAnyH_ready (rs := [8]) (by kernel_rfl) (by simp) ?_
  refine AllReadyH.cons (o := { dst := some 49, op := Op.call { callee := Callee.value (Operand.func 58), args := #[Operand.tmp 48], argTypes := #[22] }, type := 47, pos := "ref.go:127", after := #[{ on := 7, ground := Ground.data }], guard := none }) rfl (fun K hK => ?_) AllReadyH.nil
  (have hq_ := hHeld; (try dsimp only at hq_))
  obtain ⟨⟨PV_1_1, PV_1_1'⟩, ⟨PL_1_1, PL_1_1'⟩, hF_1_1⟩ := hq_
  go_simp
  refine (HB.out _ (by go_simp) (by go_simp)).mono ?_
  rintro e u1_1 ⟨rfl, hb⟩
  refine hK.out _ _ ?_ (fun hHeld => ?_)
  · exact ⟨⟨rk1 PV_1_1 hb, rk2 PV_1_1 PV_1_1' hb⟩, ⟨rk1 PL_1_1 hb, rk2 PL_1_1 PL_1_1' hb⟩, Aside2.low hF_1_1 hb⟩
  clear hK K
  try simp only [Act.put, List.setIfInBounds_toArray, List.set_cons_zero, List.set_cons_succ]
  refine wpAnyH_ready (rs := [9]) (by kernel_rfl) (by simp) ?_
  refine AllReadyH.cons (o := { dst := some 50, op := Op.call { callee := Callee.value (Operand.func 85), args := #[Operand.tmp 44, Operand.tmp 49, Operand.const (Value.int IntKind.i64 0)], argTypes := #[107, 47, 3] }, type := 3, pos := "ref.go:127", after := #[{ on := 3, ground := Ground.data }, { on := 8, ground := Ground.data }, { on := 8, ground := Ground.chain }], guard := none }) rfl (fun K hK => ?_) AllReadyH.nil
  (have hq_ := hHeld; (try dsimp only at hq_))
  obtain ⟨⟨PV_1_2, PV_1_2'⟩, ⟨PL_1_2, PL_1_2'⟩, hF_1_2⟩ := hq_
  go_simp
  refine (HS.out _).mono ?_
  rintro e u1_2 ⟨rfl, hb⟩
  refine hK.out _ _ ?_ (fun hHeld => ?_)
  · exact ⟨⟨rk1 PV_1_2 hb, rk2 PV_1_2 PV_1_2' hb⟩, ⟨rk1 PL_1_2 hb, rk2 PL_1_2 PL_1_2' hb⟩, Aside2.low hF_1_2 hb⟩
  clear hK K
  try simp only [Act.put, List.setIfInBounds_toArray, List.set_cons_zero, List.set_cons_succ]
  refine wpAnyH_take (i := 10) (oi := { dst := some 51, op := Op.convert 3 67 (Operand.tmp 50), type := 67, pos := "ref.go:127", after := #[{ on := 9, ground := Ground.data }], guard := none }) (v := ?_) rfl (by kernel_rfl) (by kernel_rfl) (by kernel_rfl) (fun _ _ _ h => h) (Or.inl ⟨by rfl, ?_⟩) (by assumption) ?_
  rotate_left
  · (intro w_ hS_; (try dsimp only at hS_); go_simp; try with_reducible rfl)
  try simp only [Act.put, List.setIfInBounds_toArray, List.set_cons_zero, List.set_cons_succ]
  refine wpAnyH_take (i := 11) (oi := { dst := some 8, op := Op.assign (Operand.tmp 51), type := 67, pos := "ref.go:127", after := #[{ on := 10, ground := Ground.data }, { on := 9, ground := Ground.chain }, { on := 0, ground := Ground.phase }, { on := 1, ground := Ground.phase }, { on := 2, ground := Ground.phase }, { on := 3, ground := Ground.phase }, { on := 4, ground := Ground.phase }, { on := 5, ground := Ground.phase }, { on := 6, ground := Ground.phase }, { on := 7, ground := Ground.phase }, { on := 8, ground := Ground.phase }, { on := 9, ground := Ground.phase }, { on := 10, ground := Ground.phase }], guard := none }) (v := ?_) rfl (by kernel_rfl) (by kernel_rfl) (by kernel_rfl) (fun _ _ _ h => h) (Or.inl ⟨by rfl, ?_⟩) (by assumption) ?_
  rotate_left
  · (intro w_ hS_; (try dsimp only at hS_); go_simp; try with_reducible rfl)
  try simp only [Act.put, List.setIfInBounds_toArray, List.set_cons_zero, List.set_cons_succ]
  refine wpAnyH_take (i := 12) (oi := { dst := some 9, op := Op.assign (Operand.const (Value.bool false)), type := 4, pos := "ref.go:127", after := #[{ on := 11, ground := Ground.chain }, { on := 0, ground := Ground.phase }, { on := 1, ground := Ground.phase }, { on := 2, ground := Ground.phase }, { on := 3, ground := Ground.phase }, { on := 4, ground := Ground.phase }, { on := 5, ground := Ground.phase }, { on := 6, ground := Ground.phase }, { on := 7, ground := Ground.phase }, { on := 8, ground := Ground.phase }, { on := 9, ground := Ground.phase }, { on := 10, ground := Ground.phase }, { on := 11, ground := Ground.phase }], guard := none }) (v := ?_) rfl (by kernel_rfl) (by kernel_rfl) (by kernel_rfl) (fun _ _ _ h => h) (Or.inl ⟨by rfl, ?_⟩) (by assumption) ?_
  rotate_left
  · (intro w_ hS_; (try dsimp only at hS_); go_simp; try with_reducible rfl)
  try simp only [Act.put, List.setIfInBounds_toArray, List.set_cons_zero, List.set_cons_succ]
  refine wpAnyH_take (i := 13) (oi := { dst := some 10, op := Op.assign (Operand.const (Value.int IntKind.i64 (-1))), type := 3, pos := "ref.go:127", after := #[{ on := 12, ground := Ground.chain }, { on := 0, ground := Ground.phase }, { on := 1, ground := Ground.phase }, { on := 2, ground := Ground.phase }, { on := 3, ground := Ground.phase }, { on := 4, ground := Ground.phase }, { on := 5, ground := Ground.phase }, { on := 6, ground := Ground.phase }, { on := 7, ground := Ground.phase }, { on := 8, ground := Ground.phase }, { on := 9, ground := Ground.phase }, { on := 10, ground := Ground.phase }, { on := 11, ground := Ground.phase }, { on := 12, ground := Ground.phase }], guard := none }) (v := ?_) rfl (by kernel_rfl) (by kernel_rfl) (by kernel_rfl) (fun _ _ _ h => h) (Or.inl ⟨by rfl, ?_⟩) (by assumption) ?_
  rotate_left
  · (intro w_ hS_; (try dsimp only at hS_); go_simp; try with_reducible rfl)
  try simp only [Act.put, List.setIfInBounds_toArray, List.set_cons_zero, List.set_cons_succ]
  refine wpAnyH_take (i := 14) (oi := { dst := some 11, op := Op.assign (Operand.const (Value.bool true)), type := 4, pos := "ref.go:127", after := #[{ on := 13, ground := Ground.chain }, { on := 0, ground := Ground.phase }, { on := 1, ground := Ground.phase }, { on := 2, ground := Ground.phase }, { on := 3, ground := Ground.phase }, { on := 4, ground := Ground.phase }, { on := 5, ground := Ground.phase }, { on := 6, ground := Ground.phase }, { on := 7, ground := Ground.phase }, { on := 8, ground := Ground.phase }, { on := 9, ground := Ground.phase }, { on := 10, ground := Ground.phase }, { on := 11, ground := Ground.phase }, { on := 12, ground := Ground.phase }, { on := 13, ground := Ground.phase }], guard := none }) (v := ?_) rfl (by kernel_rfl) (by kernel_rfl) (by kernel_rfl) (fun _ _ _ h => h) (Or.inl ⟨by rfl, ?_⟩) (by assumption) ?_
  rotate_left
  · (intro w_ hS_; (try dsimp only at hS_); go_simp; try with_reducible rfl)
  try simp only [Act.put, List.setIfInBounds_toArray, List.set_cons_zero, List.set_cons_succ]
  refine wpAnyH_done (by kernel_rfl) ?_ _
  (try dsimp only at hHeld)
  go_split_ands
  go_wp2
  exact bodyPost_ret (v := .tuple #[.int .u64 (IntKind.u64.wrap id), .bool false, .int .i64 (-1), .bool true]) (by simp [results, Try.results64, go_sem]) rfl ⟨rfl, ⟨by go_simp, by go_simp⟩, ⟨by go_simp, by go_simp⟩, by go_simp⟩
set_option maxRecDepth 100000 in
set_option maxHeartbeats 4000000 in
theorem rdo_s1 (g bl : Nat) (R : Array Value) (hR : R.size = 70) (n : Nat) (C : Array Value) (lost : Int)  (w : World) (hr : isRow w g) (hr' : rowAt w g = (RV R (.slice (some ⟨bl, 0, none⟩) n n) (.int .i64 lost))) (hl : isRow w bl) (hl' : rowAt w bl = C) (hne : ¬ g = bl) (hne' : ¬ bl = g) (x y : Int) (x0 : 0 ≤ x) (hy : x % 16777216 = y) (y0 : 0 ≤ y) (y1 : y ≤ 16777215) (id cid cpr cgr : Int) (cis : Bool) (HB : Hid (∀ W : World, isRow W bl → rowAt W bl = C → Calls Try.prog 58 #[.slice (some ⟨bl, 0, none⟩) n n] W fun e w' => e = .returned (.agg #[.int .i64 cid, .int .i64 cpr, .int .i64 cgr, .bool cis]) ∧ Below W.heap.size W w')) (HS : Hid (∀ W : World, Calls Try.prog 85 #[.agg R, .agg #[.int .i64 cid, .int .i64 cpr, .int .i64 cgr, .bool cis], .int .i64 1] W fun e w' => e = .returned (.int .i64 id) ∧ Below W.heap.size W w')) :
    Calls Try.prog 64 #[.pointer (some ⟨g, 0, none⟩), .int .i64 14, .bool false, .int .u64 x] w fun e w' => e = .returned (.tuple #[.int .u64 (IntKind.u64.wrap id), .bool false, .int .i64 (-1), .bool true]) ∧ Row w' g (RV R (.slice (some ⟨bl, 0, none⟩) n n) (.int .i64 lost)) ∧ Row w' bl C ∧ Aside2 g bl w w' := by
  have _u : True := by have _ := hne; have _ := hne'; have _ := y0; have _ := y1; have _ := x0; have _ := hy; have _ := hR; trivial
  clear _u
  have hX : Aside2 g bl w w := .of_below (Below.refl _ _)
  have lr := hr.lt
  have ll := hl.lt
  have nr : ¬ g = w.heap.size := by omega
  have rn : ¬ w.heap.size = g := by omega
  have nl : ¬ bl = w.heap.size := by omega
  have ln : ¬ w.heap.size = bl := by omega
  have hB_0 : Below w.heap.size w w := Below.refl _ _
  go_enter Try.func64, Try.ntmps64
  go_wp2_with fail
  refine wp_region_held_drew (S := fun w' => (isRow w' g ∧ rowAt w' g = (RV R (.slice (some ⟨bl, 0, none⟩) n n) (.int .i64 lost))) ∧ (isRow w' bl ∧ rowAt w' bl = C) ∧ Aside2 g bl w w') (by kernel_rfl) ⟨⟨by go_simp, by go_simp⟩, ⟨by go_simp, by go_simp⟩, by go_simp⟩ (fun hHeld => ?_)
  refine wpAnyH_take (i := 0) (oi := { dst := some 54, op := Op.move (Operand.tmp 0), type := 75, pos := "ref.go:129", after := #[], guard := none }) (v := ?_) rfl (by kernel_rfl) (by kernel_rfl) (by kernel_rfl) (fun _ _ _ h => h) (Or.inl ⟨by rfl, ?_⟩) (by assumption) ?_
  rotate_left
  · (intro w_ hS_; (try dsimp only at hS_); go_simp; try with_reducible rfl)
  try simp only [Act.put, List.setIfInBounds_toArray, List.set_cons_zero, List.set_cons_succ]
  refine wpAnyH_take (i := 1) (oi := { dst := some 55, op := Op.nilCheck (Operand.tmp 54), type := 0, pos := "ref.go:129", after := #[{ on := 0, ground := Ground.data }], guard := none }) (v := ?_) rfl (by kernel_rfl) (by kernel_rfl) (by kernel_rfl) (fun _ _ _ h => h) (Or.inl ⟨by rfl, ?_⟩) (by assumption) ?_
  rotate_left
  · (intro w_ hS_; (try dsimp only at hS_); go_simp; try with_reducible rfl)
  try simp only [Act.put, List.setIfInBounds_toArray, List.set_cons_zero, List.set_cons_succ]
  refine wpAnyH_take (i := 2) (oi := { dst := some 56, op := Op.fieldAddr 110 (Operand.tmp 55) 0, type := 0, pos := "ref.go:129", after := #[{ on := 1, ground := Ground.data }], guard := none }) (v := ?_) rfl (by kernel_rfl) (by kernel_rfl) (by kernel_rfl) (fun _ _ _ h => h) (Or.inl ⟨by rfl, ?_⟩) (by assumption) ?_
  rotate_left
  · (intro w_ hS_; (try dsimp only at hS_); go_simp; try with_reducible rfl)
  try simp only [Act.put, List.setIfInBounds_toArray, List.set_cons_zero, List.set_cons_succ]
  refine wpAnyH_take (i := 3) (oi := { dst := some 57, op := Op.load 107 (Operand.tmp 56), type := 107, pos := "ref.go:129", after := #[{ on := 2, ground := Ground.data }], guard := none }) (v := ?_) rfl (by kernel_rfl) (by kernel_rfl) (by kernel_rfl) (fun _ _ _ h => h) (Or.inl ⟨by rfl, ?_⟩) (by assumption) ?_
  rotate_left
  · (intro w_ hS_; (try dsimp only at hS_); go_simp; try with_reducible rfl)
  try simp only [Act.put, List.setIfInBounds_toArray, List.set_cons_zero, List.set_cons_succ]
  refine wpAnyH_take (i := 4) (oi := { dst := some 58, op := Op.move (Operand.tmp 0), type := 75, pos := "ref.go:129", after := #[], guard := none }) (v := ?_) rfl (by kernel_rfl) (by kernel_rfl) (by kernel_rfl) (fun _ _ _ h => h) (Or.inl ⟨by rfl, ?_⟩) (by assumption) ?_
  rotate_left
  · (intro w_ hS_; (try dsimp only at hS_); go_simp; try with_reducible rfl)
  try simp only [Act.put, List.setIfInBounds_toArray, List.set_cons_zero, List.set_cons_succ]
  refine wpAnyH_take (i := 5) (oi := { dst := some 59, op := Op.nilCheck (Operand.tmp 58), type := 0, pos := "ref.go:129", after := #[{ on := 4, ground := Ground.data }], guard := none }) (v := ?_) rfl (by kernel_rfl) (by kernel_rfl) (by kernel_rfl) (fun _ _ _ h => h) (Or.inl ⟨by rfl, ?_⟩) (by assumption) ?_
  rotate_left
  · (intro w_ hS_; (try dsimp only at hS_); go_simp; try with_reducible rfl)
  try simp only [Act.put, List.setIfInBounds_toArray, List.set_cons_zero, List.set_cons_succ]
  refine wpAnyH_take (i := 6) (oi := { dst := some 60, op := Op.fieldAddr 110 (Operand.tmp 59) 1, type := 0, pos := "ref.go:129", after := #[{ on := 5, ground := Ground.data }], guard := none }) (v := ?_) rfl (by kernel_rfl) (by kernel_rfl) (by kernel_rfl) (fun _ _ _ h => h) (Or.inl ⟨by rfl, ?_⟩) (by assumption) ?_
  rotate_left
  · (intro w_ hS_; (try dsimp only at hS_); go_simp; try with_reducible rfl)
  try simp only [Act.put, List.setIfInBounds_toArray, List.set_cons_zero, List.set_cons_succ]
  refine wpAnyH_take (i := 7) (oi := { dst := some 61, op := Op.load 22 (Operand.tmp 60), type := 22, pos := "ref.go:129", after := #[{ on := 6, ground := Ground.data }], guard := none }) (v := ?_) rfl (by kernel_rfl) (by kernel_rfl) (by kernel_rfl) (fun _ _ _ h => h) (Or.inl ⟨by rfl, ?_⟩) (by assumption) ?_
  rotate_left
  · (intro w_ hS_; (try dsimp only at hS_); go_simp; try with_reducible rfl)
  try simp only [Act.put, List.setIfInBounds_toArray, List.set_cons_zero, List.set_cons_succ]
  refine wpAnyH_ready (rs := [8]) (by kernel_rfl) (by simp) ?_
  refine AllReadyH.cons (o := { dst := some 62, op := Op.call { callee := Callee.value (Operand.func 58), args := #[Operand.tmp 61], argTypes := #[22] }, type := 47, pos := "ref.go:129", after := #[{ on := 7, ground := Ground.data }], guard := none }) rfl (fun K hK => ?_) AllReadyH.nil
  (have hq_ := hHeld; (try dsimp only at hq_))
  obtain ⟨⟨PV_1_1, PV_1_1'⟩, ⟨PL_1_1, PL_1_1'⟩, hF_1_1⟩ := hq_
  go_simp
  refine (HB.out _ (by go_simp) (by go_simp)).mono ?_
  rintro e u1_1 ⟨rfl, hb⟩
  refine hK.out _ _ ?_ (fun hHeld => ?_)
  · exact ⟨⟨rk1 PV_1_1 hb, rk2 PV_1_1 PV_1_1' hb⟩, ⟨rk1 PL_1_1 hb, rk2 PL_1_1 PL_1_1' hb⟩, Aside2.low hF_1_1 hb⟩
  clear hK K
  try simp only [Act.put, List.setIfInBounds_toArray, List.set_cons_zero, List.set_cons_succ]
  refine wpAnyH_ready (rs := [9]) (by kernel_rfl) (by simp) ?_
  refine AllReadyH.cons (o := { dst := some 63, op := Op.call { callee := Callee.value (Operand.func 85), args := #[Operand.tmp 57, Operand.tmp 62, Operand.const (Value.int IntKind.i64 1)], argTypes := #[107, 47, 3] }, type := 3, pos := "ref.go:129", after := #[{ on := 3, ground := Ground.data }, { on := 8, ground := Ground.data }, { on := 8, ground := Ground.chain }], guard := none }) rfl (fun K hK => ?_) AllReadyH.nil
  (have hq_ := hHeld; (try dsimp only at hq_))
  obtain ⟨⟨PV_1_2, PV_1_2'⟩, ⟨PL_1_2, PL_1_2'⟩, hF_1_2⟩ := hq_
  go_simp
  refine (HS.out _).mono ?_
  rintro e u1_2 ⟨rfl, hb⟩
  refine hK.out _ _ ?_ (fun hHeld => ?_)
  · exact ⟨⟨rk1 PV_1_2 hb, rk2 PV_1_2 PV_1_2' hb⟩, ⟨rk1 PL_1_2 hb, rk2 PL_1_2 PL_1_2' hb⟩, Aside2.low hF_1_2 hb⟩
  clear hK K
  try simp only [Act.put, List.setIfInBounds_toArray, List.set_cons_zero, List.set_cons_succ]
  refine wpAnyH_take (i := 10) (oi := { dst := some 64, op := Op.convert 3 67 (Operand.tmp 63), type := 67, pos := "ref.go:129", after := #[{ on := 9, ground := Ground.data }], guard := none }) (v := ?_) rfl (by kernel_rfl) (by kernel_rfl) (by kernel_rfl) (fun _ _ _ h => h) (Or.inl ⟨by rfl, ?_⟩) (by assumption) ?_
  rotate_left
  · (intro w_ hS_; (try dsimp only at hS_); go_simp; try with_reducible rfl)
  try simp only [Act.put, List.setIfInBounds_toArray, List.set_cons_zero, List.set_cons_succ]
  refine wpAnyH_take (i := 11) (oi := { dst := some 8, op := Op.assign (Operand.tmp 64), type := 67, pos := "ref.go:129", after := #[{ on := 10, ground := Ground.data }, { on := 9, ground := Ground.chain }, { on := 0, ground := Ground.phase }, { on := 1, ground := Ground.phase }, { on := 2, ground := Ground.phase }, { on := 3, ground := Ground.phase }, { on := 4, ground := Ground.phase }, { on := 5, ground := Ground.phase }, { on := 6, ground := Ground.phase }, { on := 7, ground := Ground.phase }, { on := 8, ground := Ground.phase }, { on := 9, ground := Ground.phase }, { on := 10, ground := Ground.phase }], guard := none }) (v := ?_) rfl (by kernel_rfl) (by kernel_rfl) (by kernel_rfl) (fun _ _ _ h => h) (Or.inl ⟨by rfl, ?_⟩) (by assumption) ?_
  rotate_left
  · (intro w_ hS_; (try dsimp only at hS_); go_simp; try with_reducible rfl)
  try simp only [Act.put, List.setIfInBounds_toArray, List.set_cons_zero, List.set_cons_succ]
  refine wpAnyH_take (i := 12) (oi := { dst := some 9, op := Op.assign (Operand.const (Value.bool false)), type := 4, pos := "ref.go:129", after := #[{ on := 11, ground := Ground.chain }, { on := 0, ground := Ground.phase }, { on := 1, ground := Ground.phase }, { on := 2, ground := Ground.phase }, { on := 3, ground := Ground.phase }, { on := 4, ground := Ground.phase }, { on := 5, ground := Ground.phase }, { on := 6, ground := Ground.phase }, { on := 7, ground := Ground.phase }, { on := 8, ground := Ground.phase }, { on := 9, ground := Ground.phase }, { on := 10, ground := Ground.phase }, { on := 11, ground := Ground.phase }], guard := none }) (v := ?_) rfl (by kernel_rfl) (by kernel_rfl) (by kernel_rfl) (fun _ _ _ h => h) (Or.inl ⟨by rfl, ?_⟩) (by assumption) ?_
  rotate_left
  · (intro w_ hS_; (try dsimp only at hS_); go_simp; try with_reducible rfl)
  try simp only [Act.put, List.setIfInBounds_toArray, List.set_cons_zero, List.set_cons_succ]
  refine wpAnyH_take (i := 13) (oi := { dst := some 10, op := Op.assign (Operand.const (Value.int IntKind.i64 (-1))), type := 3, pos := "ref.go:129", after := #[{ on := 12, ground := Ground.chain }, { on := 0, ground := Ground.phase }, { on := 1, ground := Ground.phase }, { on := 2, ground := Ground.phase }, { on := 3, ground := Ground.phase }, { on := 4, ground := Ground.phase }, { on := 5, ground := Ground.phase }, { on := 6, ground := Ground.phase }, { on := 7, ground := Ground.phase }, { on := 8, ground := Ground.phase }, { on := 9, ground := Ground.phase }, { on := 10, ground := Ground.phase }, { on := 11, ground := Ground.phase }, { on := 12, ground := Ground.phase }], guard := none }) (v := ?_) rfl (by kernel_rfl) (by kernel_rfl) (by kernel_rfl) (fun _ _ _ h => h) (Or.inl ⟨by rfl, ?_⟩) (by assumption) ?_
  rotate_left
  · (intro w_ hS_; (try dsimp only at hS_); go_simp; try with_reducible rfl)
  try simp only [Act.put, List.setIfInBounds_toArray, List.set_cons_zero, List.set_cons_succ]
  refine wpAnyH_take (i := 14) (oi := { dst := some 11, op := Op.assign (Operand.const (Value.bool true)), type := 4, pos := "ref.go:129", after := #[{ on := 13, ground := Ground.chain }, { on := 0, ground := Ground.phase }, { on := 1, ground := Ground.phase }, { on := 2, ground := Ground.phase }, { on := 3, ground := Ground.phase }, { on := 4, ground := Ground.phase }, { on := 5, ground := Ground.phase }, { on := 6, ground := Ground.phase }, { on := 7, ground := Ground.phase }, { on := 8, ground := Ground.phase }, { on := 9, ground := Ground.phase }, { on := 10, ground := Ground.phase }, { on := 11, ground := Ground.phase }, { on := 12, ground := Ground.phase }, { on := 13, ground := Ground.phase }], guard := none }) (v := ?_) rfl (by kernel_rfl) (by kernel_rfl) (by kernel_rfl) (fun _ _ _ h => h) (Or.inl ⟨by rfl, ?_⟩) (by assumption) ?_
  rotate_left
  · (intro w_ hS_; (try dsimp only at hS_); go_simp; try with_reducible rfl)
  try simp only [Act.put, List.setIfInBounds_toArray, List.set_cons_zero, List.set_cons_succ]
  refine wpAnyH_done (by kernel_rfl) ?_ _
  (try dsimp only at hHeld)
  go_split_ands
  go_wp2
  exact bodyPost_ret (v := .tuple #[.int .u64 (IntKind.u64.wrap id), .bool false, .int .i64 (-1), .bool true]) (by simp [results, Try.results64, go_sem]) rfl ⟨rfl, ⟨by go_simp, by go_simp⟩, ⟨by go_simp, by go_simp⟩, by go_simp⟩
set_option maxRecDepth 100000 in
set_option maxHeartbeats 4000000 in
theorem rdo_e0 (g bl : Nat) (R : Array Value) (hR : R.size = 70) (n : Nat) (C : Array Value) (lost : Int) (R' : Array Value) (C' : Array Value) (lost' : Int) (w : World) (hr : isRow w g) (hr' : rowAt w g = (RV R (.slice (some ⟨bl, 0, none⟩) n n) (.int .i64 lost))) (hl : isRow w bl) (hl' : rowAt w bl = C) (hne : ¬ g = bl) (hne' : ¬ bl = g) (x y : Int) (x0 : 0 ≤ x) (hy : x % 16777216 = y) (y0 : 0 ≤ y) (y1 : y ≤ 16777215) (ok : Bool) (mm : Int) (HE : Hid (∀ W : World, isRow W g → rowAt W g = (RV R (.slice (some ⟨bl, 0, none⟩) n n) (.int .i64 lost)) → isRow W bl → rowAt W bl = C → Calls Try.prog 87 #[.pointer (some ⟨g, 0, none⟩), .int .i64 0, .int .i64 y] W fun e w' => e = .returned (.tuple #[.bool ok, .int .i64 mm]) ∧ Row w' g (RV R' (.slice (some ⟨bl, 0, none⟩) n n) (.int .i64 lost')) ∧ Row w' bl C' ∧ Aside2 g bl W w')) :
    Calls Try.prog 64 #[.pointer (some ⟨g, 0, none⟩), .int .i64 3, .bool true, .int .u64 x] w fun e w' => e = .returned (.tuple #[.int .u64 0, .bool ok, .int .i64 mm, .bool true]) ∧ Row w' g (RV R' (.slice (some ⟨bl, 0, none⟩) n n) (.int .i64 lost')) ∧ Row w' bl C' ∧ Aside2 g bl w w' := by
  have _u : True := by have _ := hne; have _ := hne'; have _ := y0; have _ := y1; have _ := x0; have _ := hy; have _ := hR; trivial
  clear _u
  have hX : Aside2 g bl w w := .of_below (Below.refl _ _)
  have lr := hr.lt
  have ll := hl.lt
  have nr : ¬ g = w.heap.size := by omega
  have rn : ¬ w.heap.size = g := by omega
  have nl : ¬ bl = w.heap.size := by omega
  have ln : ¬ w.heap.size = bl := by omega
  have hB_0 : Below w.heap.size w w := Below.refl _ _
  go_enter Try.func64, Try.ntmps64
  go_wp2_with fail
  refine (HE.out _ (by go_simp) (by go_simp) (by go_simp) (by go_simp)).mono ?_
  rintro e v1 ⟨rfl, ⟨V_1, V_1'⟩, ⟨L_1, L_1'⟩, hA1⟩
  have hB_1 : Aside2 g bl w v1 := Aside2.trans (by go_simp) hA1
  clear hr hr' hl hl' hX hA1
  have hz_1 : w.heap.size ≤ v1.heap.size := hB_1.size
  have hl_V_1 := isRow.lt V_1
  have hl_L_1 := isRow.lt L_1
  go_wp2
  exact bodyPost_ret (v := .tuple #[.int .u64 0, .bool ok, .int .i64 mm, .bool true]) (by simp [results, Try.results64, go_sem]) rfl ⟨rfl, ⟨by go_simp, by go_simp⟩, ⟨by go_simp, by go_simp⟩, by go_simp⟩
set_option maxRecDepth 100000 in
set_option maxHeartbeats 4000000 in
theorem rdo_e1 (g bl : Nat) (R : Array Value) (hR : R.size = 70) (n : Nat) (C : Array Value) (lost : Int) (R' : Array Value) (C' : Array Value) (lost' : Int) (w : World) (hr : isRow w g) (hr' : rowAt w g = (RV R (.slice (some ⟨bl, 0, none⟩) n n) (.int .i64 lost))) (hl : isRow w bl) (hl' : rowAt w bl = C) (hne : ¬ g = bl) (hne' : ¬ bl = g) (x y : Int) (x0 : 0 ≤ x) (hy : x % 16777216 = y) (y0 : 0 ≤ y) (y1 : y ≤ 16777215) (ok : Bool) (mm : Int) (HE : Hid (∀ W : World, isRow W g → rowAt W g = (RV R (.slice (some ⟨bl, 0, none⟩) n n) (.int .i64 lost)) → isRow W bl → rowAt W bl = C → Calls Try.prog 87 #[.pointer (some ⟨g, 0, none⟩), .int .i64 1, .int .i64 y] W fun e w' => e = .returned (.tuple #[.bool ok, .int .i64 mm]) ∧ Row w' g (RV R' (.slice (some ⟨bl, 0, none⟩) n n) (.int .i64 lost')) ∧ Row w' bl C' ∧ Aside2 g bl W w')) :
    Calls Try.prog 64 #[.pointer (some ⟨g, 0, none⟩), .int .i64 4, .bool true, .int .u64 x] w fun e w' => e = .returned (.tuple #[.int .u64 0, .bool ok, .int .i64 mm, .bool true]) ∧ Row w' g (RV R' (.slice (some ⟨bl, 0, none⟩) n n) (.int .i64 lost')) ∧ Row w' bl C' ∧ Aside2 g bl w w' := by
  have _u : True := by have _ := hne; have _ := hne'; have _ := y0; have _ := y1; have _ := x0; have _ := hy; have _ := hR; trivial
  clear _u
  have hX : Aside2 g bl w w := .of_below (Below.refl _ _)
  have lr := hr.lt
  have ll := hl.lt
  have nr : ¬ g = w.heap.size := by omega
  have rn : ¬ w.heap.size = g := by omega
  have nl : ¬ bl = w.heap.size := by omega
  have ln : ¬ w.heap.size = bl := by omega
  have hB_0 : Below w.heap.size w w := Below.refl _ _
  go_enter Try.func64, Try.ntmps64
  go_wp2_with fail
  refine (HE.out _ (by go_simp) (by go_simp) (by go_simp) (by go_simp)).mono ?_
  rintro e v1 ⟨rfl, ⟨V_1, V_1'⟩, ⟨L_1, L_1'⟩, hA1⟩
  have hB_1 : Aside2 g bl w v1 := Aside2.trans (by go_simp) hA1
  clear hr hr' hl hl' hX hA1
  have hz_1 : w.heap.size ≤ v1.heap.size := hB_1.size
  have hl_V_1 := isRow.lt V_1
  have hl_L_1 := isRow.lt L_1
  go_wp2
  exact bodyPost_ret (v := .tuple #[.int .u64 0, .bool ok, .int .i64 mm, .bool true]) (by simp [results, Try.results64, go_sem]) rfl ⟨rfl, ⟨by go_simp, by go_simp⟩, ⟨by go_simp, by go_simp⟩, by go_simp⟩
set_option maxRecDepth 100000 in
set_option maxHeartbeats 4000000 in
theorem rdo_d (g bl : Nat) (R : Array Value) (hR : R.size = 70) (n : Nat) (C : Array Value) (lost : Int) (R' : Array Value) (C' : Array Value) (lost' : Int) (w : World) (hr : isRow w g) (hr' : rowAt w g = (RV R (.slice (some ⟨bl, 0, none⟩) n n) (.int .i64 lost))) (hl : isRow w bl) (hl' : rowAt w bl = C) (hne : ¬ g = bl) (hne' : ¬ bl = g) (x y : Int) (x0 : 0 ≤ x) (hy : x % 16777216 = y) (y0 : 0 ≤ y) (y1 : y ≤ 16777215) (ok : Bool) (mm : Int) (HE : Hid (∀ W : World, isRow W g → rowAt W g = (RV R (.slice (some ⟨bl, 0, none⟩) n n) (.int .i64 lost)) → isRow W bl → rowAt W bl = C → Calls Try.prog 88 #[.pointer (some ⟨g, 0, none⟩), .int .i64 y] W fun e w' => e = .returned (.tuple #[.bool ok, .int .i64 mm]) ∧ Row w' g (RV R' (.slice (some ⟨bl, 0, none⟩) n n) (.int .i64 lost')) ∧ Row w' bl C' ∧ Aside2 g bl W w')) :
    Calls Try.prog 64 #[.pointer (some ⟨g, 0, none⟩), .int .i64 5, .bool true, .int .u64 x] w fun e w' => e = .returned (.tuple #[.int .u64 0, .bool ok, .int .i64 mm, .bool true]) ∧ Row w' g (RV R' (.slice (some ⟨bl, 0, none⟩) n n) (.int .i64 lost')) ∧ Row w' bl C' ∧ Aside2 g bl w w' := by
  have _u : True := by have _ := hne; have _ := hne'; have _ := y0; have _ := y1; have _ := x0; have _ := hy; have _ := hR; trivial
  clear _u
  have hX : Aside2 g bl w w := .of_below (Below.refl _ _)
  have lr := hr.lt
  have ll := hl.lt
  have nr : ¬ g = w.heap.size := by omega
  have rn : ¬ w.heap.size = g := by omega
  have nl : ¬ bl = w.heap.size := by omega
  have ln : ¬ w.heap.size = bl := by omega
  have hB_0 : Below w.heap.size w w := Below.refl _ _
  go_enter Try.func64, Try.ntmps64
  go_wp2_with fail
  refine (HE.out _ (by go_simp) (by go_simp) (by go_simp) (by go_simp)).mono ?_
  rintro e v1 ⟨rfl, ⟨V_1, V_1'⟩, ⟨L_1, L_1'⟩, hA1⟩
  have hB_1 : Aside2 g bl w v1 := Aside2.trans (by go_simp) hA1
  clear hr hr' hl hl' hX hA1
  have hz_1 : w.heap.size ≤ v1.heap.size := hB_1.size
  have hl_V_1 := isRow.lt V_1
  have hl_L_1 := isRow.lt L_1
  go_wp2
  exact bodyPost_ret (v := .tuple #[.int .u64 0, .bool ok, .int .i64 mm, .bool true]) (by simp [results, Try.results64, go_sem]) rfl ⟨rfl, ⟨by go_simp, by go_simp⟩, ⟨by go_simp, by go_simp⟩, by go_simp⟩
set_option maxRecDepth 100000 in
set_option maxHeartbeats 4000000 in
theorem rdo_w (g bl : Nat) (R : Array Value) (hR : R.size = 70) (n : Nat) (C : Array Value) (lost : Int) (R' : Array Value) (hR' : R'.size = 70) (hO : AllOne R') (w : World) (hr : isRow w g) (hr' : rowAt w g = (RV R (.slice (some ⟨bl, 0, none⟩) n n) (.int .i64 lost))) (hl : isRow w bl) (hl' : rowAt w bl = C) (hne : ¬ g = bl) (hne' : ¬ bl = g) (x y : Int) (x0 : 0 ≤ x) (hy : x % 16777216 = y) (y0 : 0 ≤ y) (y1 : y ≤ 16777215) (r : Int) (t3 : (r == 3) = false) (t4 : (r == 4) = false) (t5 : (r == 5) = false) (ok : Bool) (HW : Hid (∀ W : World, Calls Try.prog 89 #[.agg R, .int .i64 r, .int .u64 x] W fun e w' => e = .returned (.tuple #[.agg R', .bool ok]) ∧ Below W.heap.size W w')) :
    Calls Try.prog 64 #[.pointer (some ⟨g, 0, none⟩), .int .i64 r, .bool true, .int .u64 x] w fun e w' => e = .returned (.tuple #[.int .u64 0, .bool false, .int .i64 (-1), .bool ok]) ∧ Row w' g (RV R' (.slice (some ⟨bl, 0, none⟩) n n) (.int .i64 lost)) ∧ Row w' bl C ∧ Aside2 g bl w w' := by
  have _u : True := by have _ := hne; have _ := hne'; have _ := y0; have _ := y1; have _ := x0; have _ := hy; have _ := hR; trivial
  clear _u
  have hX : Aside2 g bl w w := .of_below (Below.refl _ _)
  have lr := hr.lt
  have ll := hl.lt
  have nr : ¬ g = w.heap.size := by omega
  have rn : ¬ w.heap.size = g := by omega
  have nl : ¬ bl = w.heap.size := by omega
  have ln : ¬ w.heap.size = bl := by omega
  have hB_0 : Below w.heap.size w w := Below.refl _ _
  go_enter Try.func64, Try.ntmps64
  go_wp2_with fail
  refine (HW.out _).mono ?_
  rintro e v1 ⟨rfl, hb1⟩
  obtain ⟨V_1, V_1'⟩ : Row v1 g (RV R (.slice (some ⟨bl, 0, none⟩) n n) (.int .i64 lost)) := Row.step (by go_simp) (by go_simp) hb1
  obtain ⟨L_1, L_1'⟩ : Row v1 bl C := Row.step (by go_simp) (by go_simp) hb1
  have hB_1 : Aside2 g bl w v1 := Aside2.low (by go_simp) hb1
  clear hr hr' hl hl' hX hb1
  have hz_1 : w.heap.size ≤ v1.heap.size := hB_1.size
  have hl_V_1 := isRow.lt V_1
  have ne_V_1_0 : ¬ g = v1.heap.size := by omega
  have en_V_1_0 : ¬ v1.heap.size = g := by omega
  have hl_L_1 := isRow.lt L_1
  have ne_L_1_0 : ¬ bl = v1.heap.size := by omega
  have en_L_1_0 : ¬ v1.heap.size = bl := by omega
  have ne_V_X : ¬ g = v1.heap.size := by omega
  have en_V_X : ¬ v1.heap.size = g := by omega
  have ne_L_X : ¬ bl = v1.heap.size := by omega
  have en_L_X : ¬ v1.heap.size = bl := by omega
  go_wp2
  exact bodyPost_ret (v := .tuple #[.int .u64 0, .bool false, .int .i64 (-1), .bool ok]) (by simp [results, Try.results64, go_sem]) rfl ⟨rfl, ⟨by go_simp, by go_simp⟩, ⟨by go_simp, by go_simp⟩, by go_simp⟩
set_option maxRecDepth 100000 in
set_option maxHeartbeats 4000000 in
theorem rdo_r (g bl : Nat) (R : Array Value) (hR : R.size = 70) (n : Nat) (C : Array Value) (lost : Int)  (w : World) (hr : isRow w g) (hr' : rowAt w g = (RV R (.slice (some ⟨bl, 0, none⟩) n n) (.int .i64 lost))) (hl : isRow w bl) (hl' : rowAt w bl = C) (hne : ¬ g = bl) (hne' : ¬ bl = g) (x y : Int) (x0 : 0 ≤ x) (hy : x % 16777216 = y) (y0 : 0 ≤ y) (y1 : y ≤ 16777215) (r : Int) (t1 : (r == 1) = false) (t2 : (r == 2) = false) (t13 : (r == 13) = false) (t14 : (r == 14) = false) (id : Int) (ok : Bool) (HR : Hid (∀ W : World, Calls Try.prog 86 #[.agg R, .int .i64 r] W fun e w' => e = .returned (.tuple #[.int .u64 id, .bool ok]) ∧ Below W.heap.size W w')) :
    Calls Try.prog 64 #[.pointer (some ⟨g, 0, none⟩), .int .i64 r, .bool false, .int .u64 x] w fun e w' => e = .returned (.tuple #[.int .u64 id, .bool false, .int .i64 (-1), .bool ok]) ∧ Row w' g (RV R (.slice (some ⟨bl, 0, none⟩) n n) (.int .i64 lost)) ∧ Row w' bl C ∧ Aside2 g bl w w' := by
  have _u : True := by have _ := hne; have _ := hne'; have _ := y0; have _ := y1; have _ := x0; have _ := hy; have _ := hR; trivial
  clear _u
  have hX : Aside2 g bl w w := .of_below (Below.refl _ _)
  have lr := hr.lt
  have ll := hl.lt
  have nr : ¬ g = w.heap.size := by omega
  have rn : ¬ w.heap.size = g := by omega
  have nl : ¬ bl = w.heap.size := by omega
  have ln : ¬ w.heap.size = bl := by omega
  have hB_0 : Below w.heap.size w w := Below.refl _ _
  go_enter Try.func64, Try.ntmps64
  go_wp2_with fail
  refine (HR.out _).mono ?_
  rintro e v1 ⟨rfl, hb1⟩
  obtain ⟨V_1, V_1'⟩ : Row v1 g (RV R (.slice (some ⟨bl, 0, none⟩) n n) (.int .i64 lost)) := Row.step (by go_simp) (by go_simp) hb1
  obtain ⟨L_1, L_1'⟩ : Row v1 bl C := Row.step (by go_simp) (by go_simp) hb1
  have hB_1 : Aside2 g bl w v1 := Aside2.low (by go_simp) hb1
  clear hr hr' hl hl' hX hb1
  have hz_1 : w.heap.size ≤ v1.heap.size := hB_1.size
  have hl_V_1 := isRow.lt V_1
  have hl_L_1 := isRow.lt L_1
  go_wp2
  exact bodyPost_ret (v := .tuple #[.int .u64 id, .bool false, .int .i64 (-1), .bool ok]) (by simp [results, Try.results64, go_sem]) rfl ⟨rfl, ⟨by go_simp, by go_simp⟩, ⟨by go_simp, by go_simp⟩, by go_simp⟩
end Go.Proofs.Ytkbaghblchlcnaa.Lr
namespace Go.Proofs.Ytkbaghblchlcnaa.Lr
open Go.RowKit Go.Shelf Go.Proofs.YtkbaghblchlcnaaW.PrintWords Go.Proofs.Ytkbaghblchlcnaa.IAll
theorem zeroCells_FA (n : Nat) : Builtin.zeroCells (enc z54) n = FA (List.replicate n z54) := by
  apply Array.ext
  · rw [FA_size]; simp [Builtin.zeroCells, enc]
  · intro i h1 h2
    have hi : i < n * 7 := by rw [FA_size] at h2; simpa using h2
    have hk : i / 7 < n := by omega
    have hg := FA_get (List.replicate n z54) (i / 7) (i % 7) (by simpa using hk) (by omega)
    rw [show i / 7 * 7 + i % 7 = i by omega, Array.getElem?_eq_getElem h2] at hg
    have e : (List.replicate n z54).getD (i / 7) z54 = z54 := by
      rw [List.getD_eq_getElem?_getD, List.getElem?_replicate]; split <;> rfl
    rw [e] at hg
    have hm : i % 7 < (enc z54).size := by simp [enc]; omega
    have : (Builtin.zeroCells (enc z54) n)[i] = (enc z54)[i % 7]! := by simp [Builtin.zeroCells, enc]
    rw [this]
    have h3 : (enc z54).toList[i % 7]? = some ((enc z54)[i % 7]!) := by
      rw [getElem!_pos (enc z54) (i % 7) hm, Array.getElem?_toList, Array.getElem?_eq_getElem hm]
    rw [h3] at hg
    exact (Option.some.inj hg).symm
theorem fl_append (xs ys : List S54) : fl (xs ++ ys) = fl xs ++ fl ys := by simp [fl]
theorem fl_drop (xs : List S54) : ∀ k : Nat, (fl xs).drop (k * 7) = fl (xs.drop k) := by
  induction xs with
  | nil => intro k; simp [fl]
  | cons x xs ih =>
    intro k
    cases k with
    | zero => simp
    | succ k =>
      rw [fl_cons, show (k + 1) * 7 = (enc x).toList.length + k * 7 by simp [enc]; omega, ← List.drop_drop, List.drop_left]
      exact ih k
theorem fl_take (xs : List S54) : ∀ k : Nat, (fl xs).take (k * 7) = fl (xs.take k) := by
  induction xs with
  | nil => intro k; simp [fl]
  | cons x xs ih =>
    intro k
    cases k with
    | zero => simp [fl]
    | succ k =>
      rw [fl_cons, show (k + 1) * 7 = (enc x).toList.length + k * 7 by simp [enc]; omega, List.take_length_add_append, ih k, List.take_succ_cons, fl_cons]
theorem one_fl (xs : List S54) : ∀ v ∈ fl xs, v.oneCell' = true := by
  intro v hv
  simp only [fl, List.mem_flatMap] at hv
  obtain ⟨x, _, hx⟩ := hv
  simp [enc] at hx
  rcases hx with rfl | rfl | rfl | rfl | rfl | rfl | rfl <;> rfl
theorem run_clear_row {w : World} {bl n c : Nat} {ty : TypeId} (h : isRow w bl) (hs : (rowAt w bl).size = n * 7) (hn : 0 < n) :
    (Builtin.clear_ #[22] ty #[.slice (some ⟨bl, 0, none⟩) n c]).run Try.prog w = .ok (.tuple #[]) (w.setRow bl (FA (List.replicate n z54))) := by
  obtain ⟨t, ht⟩ := h.box
  have hst := run_storeCells_at Try.prog bl 0 t (fl (List.replicate n z54)) 0 (rowAt w bl) w ht (by rw [fl_length, hs]; simp) (one_fl _)
  have hfin : ((rowAt w bl).toList.take (0 + 0) ++ fl (List.replicate n z54) ++ (rowAt w bl).toList.drop (0 + 0 + (fl (List.replicate n z54)).length)).toArray = FA (List.replicate n z54) := by
    unfold FA
    rw [fl_length, List.drop_of_length_le (by simp [hs])]
    simp
  rw [hfin] at hst
  obtain ⟨k, rfl⟩ : ∃ k, n = k + 1 := ⟨n - 1, by omega⟩
  have hz : (Builtin.zeroCells (Value.agg #[.int .i64 0, .int .i64 0, .int .i64 0, .int .i64 0, .bool false, .int .i64 0, .bool false]).cells (k + 1)).toList = fl (List.replicate (k + 1) z54) := by
    show (Builtin.zeroCells (enc z54) (k + 1)).toList = _
    rw [zeroCells_FA]; rfl
  simp [Builtin.clear_, run_underlying Try.underlying22, hz, hst]
/-- the cells of the first ones of a slice that is read -/
theorem C_cells {w : World} {A : Option Addr} {ls : List S54} (h : Kd.C k54 w A ls.length ls) (hn : 0 < ls.length) : ∃ ad, A = some ad ∧ ∀ j v, (fl ls)[j]? = some v → w.cell? (ad.add j) = some v := by
  obtain ⟨-, -, h3⟩ := h
  obtain ⟨ad, e, hc⟩ := h3 hn
  refine ⟨ad, e, fun j v hv => ?_⟩
  have hj : j < ls.length * 7 := by have := (List.getElem?_eq_some_iff.1 hv).1; rwa [fl_length] at this
  have hk : j / 7 < ls.length := by omega
  obtain ⟨c, hcl, hK, hcell⟩ := hc (j / 7) _ (List.getElem?_eq_getElem hk)
  obtain rfl := k54_open hK
  have hg := fl_get ls (j / 7) (j % 7) hk (by omega)
  rw [show j / 7 * 7 + j % 7 = j by omega, hv] at hg
  have := hcell (j % 7) v (by
    rw [hg, List.getD_eq_getElem?_getD, List.getElem?_eq_getElem hk]; rfl)
  rwa [show j / 7 * k54.sz + j % 7 = j from (show j / 7 * 7 + j % 7 = j by omega)] at this
theorem C_far {w W : World} {A : Option Addr} {ls : List S54} (h : Kd.C k54 w A ls.length ls) (hb : ∀ ad, A = some ad → 0 < ls.length → W.heap[ad.block]? = w.heap[ad.block]?) : Kd.C k54 W A ls.length ls := by
  obtain ⟨h1, h2, h3⟩ := h
  refine ⟨h1, h2, fun hn => ?_⟩
  obtain ⟨ad, e, hc⟩ := h3 hn
  refine ⟨ad, e, fun j p hp => ?_⟩
  obtain ⟨c, hcl, hK, hcell⟩ := hc j p hp
  obtain rfl := k54_open hK
  refine ⟨_, hcl, k54_mk W p, fun i u hu => ?_⟩
  rw [World.cell?_of_block (show W.heap[(ad.add (j * k54.sz + i)).block]? = w.heap[(ad.add (j * k54.sz + i)).block]? from by
    have : (ad.add (j * k54.sz + i)).block = ad.block := by unfold Addr.add; split <;> rfl
    rw [this]; exact hb ad e hn)]
  exact hcell i u hu
theorem infoLz : (Try.prog.info? 54).map (·.size) = some 7 := by kernel_rfl
theorem run_copy_row {w : World} {bl n c c' : Nat} {ty : TypeId} {A : Option Addr} {ls : List S54} (h : isRow w bl) (hs : (rowAt w bl).size = n * 7) (hC : Kd.C k54 w A ls.length ls) (hk : ls.length ≤ n) :
    (Builtin.copy_ #[22, 22] ty #[.slice (some ⟨bl, 0, none⟩) n c, .slice A ls.length c']).run Try.prog w = .ok (goInt ls.length) (w.setRow bl (spl (rowAt w bl) 0 (FA ls))) := by
  obtain ⟨t, ht⟩ := h.box
  have hst := run_storeCells_at Try.prog bl 0 t (fl ls) 0 (rowAt w bl) w ht (by rw [fl_length, hs]; omega) (one_fl _)
  have hfin : ((rowAt w bl).toList.take (0 + 0) ++ fl ls ++ (rowAt w bl).toList.drop (0 + 0 + (fl ls).length)).toArray = spl (rowAt w bl) 0 (FA ls) := by
    unfold spl FA; simp
  rw [hfin] at hst
  have hmin : Nat.min ls.length n = ls.length := Nat.min_eq_left hk
  have hsz : (Go.sizeOf 54).run Try.prog w = .ok 7 w := by
    obtain ⟨i, hi, hi7⟩ := Option.map_eq_some_iff.1 infoLz
    simp [Go.sizeOf, typeInfo, hi, hi7]
  have hfirst : (Builtin.firstCells 7 ls.length (.slice A ls.length c')).run Try.prog w = .ok (FA ls) w := by
    by_cases h0 : ls.length = 0
    · obtain rfl : ls = [] := List.eq_nil_of_length_eq_zero h0
      cases A with
      | none => simp [Builtin.firstCells, FA, fl]
      | some ad => simp [Builtin.firstCells, FA, fl, loadCells, loadCellsFrom]
    · obtain ⟨ad, rfl, hc⟩ := C_cells hC (by omega)
      exact run_firstCells_some w 7 ls.length ad ls.length c' (fl ls) (fl_length ls) hc
  simp only [Builtin.copy_, Builtin.lenOf]
  simp [run_underlying Try.underlying22, hmin, hsz, hfirst, FA, hst]
theorem spl_zero (n : Nat) (ls : List S54) : spl (FA (List.replicate n z54)) 0 (FA ls) = FA (ls ++ List.replicate (n - ls.length) z54) := by
  unfold spl
  rw [FA_size]
  unfold FA
  rw [fl_append]
  congr 1
  simp only [List.take_zero, List.nil_append, Nat.zero_add]
  congr 1
  show (fl (List.replicate n z54)).drop (ls.length * 7) = _
  rw [fl_drop, List.drop_replicate]
end Go.Proofs.Ytkbaghblchlcnaa.Lr
namespace Go.Proofs.Ytkbaghblchlcnaa.Lr
open Go.RowKit Go.Shelf Go.Proofs.YtkbaghblchlcnaaW.PrintWords Go.Proofs.Ytkbaghblchlcnaa.IAll
theorem cell_setRow_other {w : World} {k : Nat} {cs : Array Value} {p : Addr} (h : ¬ p.block = k) : (w.setRow k cs).cell? p = w.cell? p := World.cell?_of_block (setRow_other w k p.block cs h)
theorem FA_spl (ys : List S54) (k : Nat) (x : S54) (hk : k < ys.length) : spl (FA ys) (k * 7) (enc x) = FA (ys.set k x) := by
  unfold spl
  have h7 : (enc x).size = 7 := rfl
  rw [h7]
  unfold FA
  congr 1
  show (fl ys).take (k * 7) ++ (enc x).toList ++ (fl ys).drop (k * 7 + 7) = _
  rw [fl_take, show k * 7 + 7 = (k + 1) * 7 by omega, fl_drop, List.set_eq_take_append_cons_drop, if_pos hk, fl_append, fl_cons, List.append_assoc]
/-- what is loaded, in as many -/
def tgt (ls : List S54) (n : Nat) : List S54 := ls ++ List.replicate (n - ls.length) z54
def mixL (ls xs : List S54) (k : Nat) : List S54 := (tgt ls xs.length).take k ++ xs.drop k
theorem tgt_length (ls : List S54) (n : Nat) (h : ls.length ≤ n) : (tgt ls n).length = n := by unfold tgt; simp; omega
theorem mix_length (ls xs : List S54) (h : ls.length ≤ xs.length) (k : Nat) (hk : k ≤ xs.length) : (mixL ls xs k).length = xs.length := by unfold mixL; rw [List.length_append, List.length_take, tgt_length ls _ h, List.length_drop]; omega
theorem mix_set (ls xs : List S54) (h : ls.length ≤ xs.length) (k : Nat) (hk : k < xs.length) : (mixL ls xs k).set k ((tgt ls xs.length).getD k z54) = mixL ls xs (k + 1) := by
  have hl := tgt_length ls xs.length h
  unfold mixL
  have hlt : ((tgt ls xs.length).take k).length = k := by rw [List.length_take, hl]; omega
  rw [List.set_append_right _ _ (by omega), hlt, Nat.sub_self, List.drop_eq_getElem_cons hk, List.set_cons_zero, List.take_succ_eq_append_getElem (by omega), List.append_assoc]
  simp only [List.singleton_append]
  rw [List.getD_eq_getElem?_getD, List.getElem?_eq_getElem (by omega)]; rfl
theorem tgt_lo (ls : List S54) (n k : Nat) (h : k < ls.length) : (tgt ls n).getD k z54 = rd_T54 ls k := by
  unfold tgt rd_T54
  rw [List.getD_eq_getElem?_getD, List.getElem?_append_left h, Int.toNat_natCast, List.getD_eq_getElem?_getD]
theorem tgt_hi (ls : List S54) (n k : Nat) (h : ¬ k < ls.length) : (tgt ls n).getD k z54 = z54 := by
  unfold tgt
  rw [List.getD_eq_getElem?_getD, List.getElem?_append_right (by omega), List.getElem?_replicate]
  split <;> rfl
section
variable {w : World} {ρ : Operand → Value} {x y : Operand} {dst : Option Tmp} {t0 : TypeId} {pos : String} {af : Array Edge} {gd : Option (Nat × Bool)}
theorem storeLm (hx : ρ x = .pointer (some ⟨blk (ρ x), offv (ρ x), none⟩)) (hy : ρ y = .agg (aggOf (ρ y))) (h : isRow w (blk (ρ x))) (hs : offv (ρ x) + 7 ≤ (rowAt w (blk (ρ x))).size) (hc : (aggOf (ρ y)).size = 7) (h1 : AllOne (aggOf (ρ y))) : (execOp ρ { dst := dst, op := .store 54 x y, type := t0, pos := pos, after := af, guard := gd }).run Try.prog w = .ok .skip (w.setRow (blk (ρ x)) (spl (rowAt w (blk (ρ x))) (offv (ρ x)) (aggOf (ρ y)))) := run_store_mid_op infoLz hx hy h hs hc h1
end
attribute [local go_sem] Oper.semAt_some cell_row frozen_row isRow_setCell_eq rowAt_setCell_same rowAt_setCell_other isRow_alloc_eq rowAt_alloc rowAt_new rowAt_new' isRow_setRow_eq rowAt_setRow_same rowAt_setRow_other isRow_drew rowAt_drew size_setRow_ Lb_size Lb_at blk_ptr aggOf_agg below_alloc_e below_setCell_e below_setRow_e below_refl_e below_drew_r aside2_alloc_e aside2_setCell_e aside2_setRow_e aside2_drew_e aside2_refl_e aside2_drewN_e isRow_drewN rowAt_drewN below_drewN_e le_add_r offv_ptr one_lad zero_lad allOne_nil allOne_cons Value.oneCell' addr_at FA_size one_FA RV_size RV_get70 RV_get71 RV_at70 RV_at71 RV_at5 RV_low RV_set71 RV_ext RV_spl cell_setRow_other
attribute [local go_sem ↓] storeI storeC storeE storeLm
attribute [local go_sem] eq2i eq2b eq2u
set_option maxRecDepth 100000 in
set_option maxHeartbeats 4000000 in
theorem rload_big (g bl : Nat) (R : Array Value) (hR : R.size = 70) (n : Nat) (lost : Int) (A : Option Addr) (c : Nat) (ls xs : List S54) (w : World) (hr : isRow w g) (hr' : rowAt w g = (RV R (.slice (some ⟨bl, 0, none⟩) n n) (.int .i64 lost))) (hl : isRow w bl) (hl' : rowAt w bl = FA xs) (hne : ¬ g = bl) (hne' : ¬ bl = g) (hlt : n < ls.length) :
    Calls Try.prog 62 #[.pointer (some ⟨g, 0, none⟩), .slice A ls.length c] w fun e w' => e = .returned (.int .i64 1) ∧ Row w' g (RV R (.slice (some ⟨bl, 0, none⟩) n n) (.int .i64 lost)) ∧ Row w' bl (FA xs) ∧ Aside2 g bl w w' := by
  have _u : True := by have _ := hne; have _ := hne'; trivial
  clear _u
  have hX : Aside2 g bl w w := .of_below (Below.refl _ _)
  have lr := hr.lt
  have ll := hl.lt
  have hlt1 : (n : Int) < (ls.length : Int) := by omega
  have hB_0 : Below w.heap.size w w := Below.refl _ _
  go_enter Try.func62, Try.ntmps62
  go_wp2
  go_ret
  exact ⟨rfl, ⟨by go_simp, by go_simp⟩, ⟨by go_simp, by go_simp⟩, by go_simp⟩
set_option maxRecDepth 100000 in
set_option maxHeartbeats 4000000 in
theorem rload_bad (g bl : Nat) (R : Array Value) (hR : R.size = 70) (n : Nat) (lost : Int) (A : Option Addr) (c : Nat) (ls xs : List S54) (w : World) (hr : isRow w g) (hr' : rowAt w g = (RV R (.slice (some ⟨bl, 0, none⟩) n n) (.int .i64 lost))) (hl : isRow w bl) (hl' : rowAt w bl = FA xs) (hne : ¬ g = bl) (hne' : ¬ bl = g) (hlt : ¬ n < ls.length) (HC : Hid (Kd.C k54 w A ls.length ls)) (HRT : Hid (∀ W : World, Kd.C k54 W A ls.length ls → Calls Try.prog 15 #[.slice A ls.length c] W fun e w' => e = .returned (.int .i64 200) ∧ Below W.heap.size W w')) :
    Calls Try.prog 62 #[.pointer (some ⟨g, 0, none⟩), .slice A ls.length c] w fun e w' => e = .returned (.int .i64 200) ∧ Row w' g (RV R (.slice (some ⟨bl, 0, none⟩) n n) (.int .i64 lost)) ∧ Row w' bl (FA xs) ∧ Aside2 g bl w w' := by
  have _u : True := by have _ := hne; have _ := hne'; trivial
  clear _u
  have hX : Aside2 g bl w w := .of_below (Below.refl _ _)
  have lr := hr.lt
  have ll := hl.lt
  have hlt1 : ¬ (n : Int) < (ls.length : Int) := by omega
  have hB_0 : Below w.heap.size w w := Below.refl _ _
  go_enter Try.func62, Try.ntmps62
  go_wp2_with fail
  refine (HRT.out _ HC.out).mono ?_
  rintro e v1 ⟨rfl, hb1⟩
  obtain ⟨V_1, V_1'⟩ : Row v1 g (RV R (.slice (some ⟨bl, 0, none⟩) n n) (.int .i64 lost)) := Row.step (by go_simp) (by go_simp) hb1
  obtain ⟨L_1, L_1'⟩ : Row v1 bl (FA xs) := Row.step (by go_simp) (by go_simp) hb1
  have hB_1 : Aside2 g bl w v1 := Aside2.low (by go_simp) hb1
  clear hr hr' hl hl' hX hb1
  go_wp2
  go_ret
  exact ⟨rfl, ⟨by go_simp, by go_simp⟩, ⟨by go_simp, by go_simp⟩, by go_simp⟩
set_option maxRecDepth 100000 in
set_option maxHeartbeats 4000000 in
theorem rload_ok (g bl : Nat) (R : Array Value) (hR : R.size = 70) (n : Nat) (lost : Int) (A : Option Addr) (c : Nat) (ls xs : List S54) (w : World) (hr : isRow w g) (hr' : rowAt w g = (RV R (.slice (some ⟨bl, 0, none⟩) n n) (.int .i64 lost))) (hl : isRow w bl) (hl' : rowAt w bl = FA xs) (hne : ¬ g = bl) (hne' : ¬ bl = g) (hlt : ¬ n < ls.length) (HC : Hid (Kd.C k54 w A ls.length ls)) (HRT : Hid (∀ W : World, Kd.C k54 W A ls.length ls → Calls Try.prog 15 #[.slice A ls.length c] W fun e w' => e = .returned (.int .i64 0) ∧ Below W.heap.size W w')) (HN : Hid (xs.length = n)) (hn16 : n ≤ 16) (hA : ∀ ad, A = some ad → 0 < ls.length → ad.block < w.heap.size ∧ ad.block ≠ bl ∧ ad.block ≠ g) :
    Calls Try.prog 62 #[.pointer (some ⟨g, 0, none⟩), .slice A ls.length c] w fun e w' => e = .returned (.int .i64 0) ∧ Row w' g (RV R (.slice (some ⟨bl, 0, none⟩) n n) (.int .i64 lost)) ∧ Row w' bl (FA (tgt ls n)) ∧ Aside2 g bl w w' := by
  have _u : True := by have _ := hne; have _ := hne'; trivial
  clear _u
  have hX : Aside2 g bl w w := .of_below (Below.refl _ _)
  have lr := hr.lt
  have ll := hl.lt
  have hlt1 : ¬ (n : Int) < (ls.length : Int) := by omega
  have hB_0 : Below w.heap.size w w := Below.refl _ _
  go_enter Try.func62, Try.ntmps62
  go_wp2_with fail
  refine (HRT.out _ HC.out).mono ?_
  rintro e v1 ⟨rfl, hb1⟩
  obtain ⟨V_1, V_1'⟩ : Row v1 g (RV R (.slice (some ⟨bl, 0, none⟩) n n) (.int .i64 lost)) := Row.step (by go_simp) (by go_simp) hb1
  obtain ⟨L_1, L_1'⟩ : Row v1 bl (FA xs) := Row.step (by go_simp) (by go_simp) hb1
  have hB_1 : Aside2 g bl w v1 := Aside2.low (by go_simp) hb1
  clear hr hr' hl hl' hX hb1
  go_wp2_with fail
  go_loopw [6] (fun i wr => ∃ k : Nat, k ≤ n ∧ i = .int .i64 k ∧ Row wr g (RV R (.slice (some ⟨bl, 0, none⟩) n n) (.int .i64 lost)) ∧ Row wr bl (FA (mixL ls xs k)) ∧ Aside2 g bl w wr) (fun i _ => n - (intOf i).toNat)
  case atStart => exact ⟨0, by omega, rfl, ⟨V_1, V_1'⟩, ⟨L_1, by rw [L_1']; unfold mixL; simp⟩, hB_1⟩
  case round =>
    clear V_1 V_1' L_1 L_1' hB_1
    obtain ⟨k, hk, rfl, ⟨V2, V2'⟩, ⟨L2, L2'⟩, hB⟩ := hrel
    by_cases hkn : k < n
    · have k1 : (0 : Int) ≤ (k : Int) := by omega
      have k2 : (k : Int) < (n : Int) := by omega
      have hlx : ls.length ≤ xs.length := by rw [HN.out]; omega
      have hml := mix_length ls xs hlx k (by rw [HN.out]; omega)
      rw [HN.out] at hml
      have hset := mix_set ls xs hlx k (by rw [HN.out]; omega)
      generalize hC1 : FA (mixL ls xs k) = C1 at *
      have hfit1 : k * 7 + 7 ≤ C1.size := by rw [← hC1, FA_size, hml]; omega
      have e2 : spl C1 (k * 7) (enc z54) = FA ((mixL ls xs k).set k z54) := by rw [← hC1]; exact FA_spl _ _ _ (by omega)
      by_cases hkl : k < ls.length
      · have hkl1 : (k : Int) < (ls.length : Int) := by omega
        have hset2 : (mixL ls xs (k + 1)) = ((mixL ls xs k).set k z54).set k (rd_T54 ls k) := by rw [← hset, tgt_lo ls _ k hkl, List.set_set]
        obtain ⟨hab0, hab1, hab2⟩ : (∀ ad, A = some ad → ad.block < w.heap.size ∧ ad.block ≠ bl ∧ ad.block ≠ g) ∧ True ∧ True := ⟨fun ad e => hA ad e (by omega), trivial, trivial⟩
        obtain ⟨ad, rfl, c0, c1, c2, c3, c4, c5, c6⟩ := at_T54 (C_far HC.out (fun ad e _ => hB.block _ (hab0 ad e).1 (hab0 ad e).2.2 (hab0 ad e).2.1)) (k : Int) (by omega) (by omega)
        simp only [Int.toNat_natCast] at c0 c1 c2 c3 c4 c5 c6
        have hbl : ¬ (ad.add (k * 7)).block = bl := by
          have : (ad.add (k * 7)).block = ad.block := by unfold Addr.add; split <;> rfl
          rw [this]; exact (hab0 ad rfl).2.1
        generalize hC2 : FA ((mixL ls xs k).set k z54) = C2 at *
        have hfit2 : k * 7 + 7 ≤ C2.size := by rw [← hC2, FA_size, List.length_set, hml]; omega
        have e3 : spl C2 (k * 7) (enc (rd_T54 ls k)) = FA (mixL ls xs (k + 1)) := by rw [← hC2, hset2]; exact FA_spl _ _ _ (by rw [List.length_set]; omega)
        generalize hC3 : FA (mixL ls xs (k + 1)) = C3 at *
        unfold enc at e2 e3
        have h0 : z54 = ⟨0, 0, 0, 0, false, 0, false⟩ := rfl
        rw [h0] at e2
        simp only at e2
        have HC3 := Lib.hid hC3
        clear hml hset hC1 hset2 hC2 hC3 hab0 hab1 hab2 hA h0 hlx
        go_wp2_with fail
        go_region
        all_goals
          go_wp2
          go_roundw
          case rel => exact ⟨k + 1, by omega, by go_num, ⟨by go_simp, by go_simp⟩, ⟨by go_simp, by rw [HC3.out]; go_simp⟩, by go_simp⟩
          case measure => simp [intOf]; omega
      · have hkl1 : ¬ (k : Int) < (ls.length : Int) := by omega
        have hset2 : (mixL ls xs (k + 1)) = ((mixL ls xs k).set k z54) := by rw [← hset, tgt_hi ls _ k hkl]
        rw [← hset2] at e2
        generalize hC3 : FA (mixL ls xs (k + 1)) = C3 at *
        unfold enc at e2
        have h0 : z54 = ⟨0, 0, 0, 0, false, 0, false⟩ := rfl
        rw [h0] at e2
        simp only at e2
        have HC3 := Lib.hid hC3
        clear hml hset hC1 hset2 hC3 hA h0 hlx
        go_wp2
        go_roundw
        case rel => exact ⟨k + 1, by omega, by go_num, ⟨by go_simp, by go_simp⟩, ⟨by go_simp, by rw [HC3.out]; go_simp⟩, by go_simp⟩
        case measure => simp [intOf]; omega
    · obtain rfl : k = n := by omega
      go_wp2
      go_ret
      exact ⟨rfl, ⟨V2, V2'⟩, ⟨L2, by rw [L2']; unfold mixL; rw [HN.out, List.take_of_length_le (by rw [tgt_length ls _ (by omega)]; omega), List.drop_of_length_le (by rw [HN.out]; omega), List.append_nil]⟩, hB⟩
end Go.Proofs.Ytkbaghblchlcnaa.Lr
namespace Go.Proofs.Ytkbaghblchlcnaa.Lr
open Go.RowKit Go.Shelf Go.Proofs.YtkbaghblchlcnaaW.PrintWords Go.Proofs.Ytkbaghblchlcnaa.IAll
theorem spl_full {cur cs : Array Value} (h : cur.size = cs.size) : spl cur 0 cs = cs := by
  unfold spl
  rw [List.take_zero, List.nil_append, List.drop_of_length_le (by simp; omega), List.append_nil]
/-- those that are not free -/
def nf (xs : List S54) : List S54 := xs.filter fun x => x.f0 != 0
theorem nf_take (xs : List S54) (k : Nat) (hk : k < xs.length) : nf (xs.take (k + 1)) = nf (xs.take k) ++ (if (rd_T54 xs k).f0 != 0 then [rd_T54 xs k] else []) := by
  have e : rd_T54 xs k = xs[k] := by unfold rd_T54; simp [hk]
  unfold nf
  rw [List.take_succ_eq_append_getElem hk, List.filter_append, e]
  cases h : (xs[k].f0 != 0) <;> simp [h]
theorem nf_length (xs : List S54) : (nf xs).length ≤ xs.length := List.length_filter_le _ _
/-- behind k rounds that free -/
def frd (xs : List S54) (k : Nat) : List S54 := List.replicate k z54 ++ xs.drop k
theorem frd_length (xs : List S54) (k : Nat) (hk : k ≤ xs.length) : (frd xs k).length = xs.length := by unfold frd; simp; omega
theorem frd_at (xs : List S54) (k : Nat) : rd_T54 (frd xs k) k = rd_T54 xs k := by
  unfold rd_T54 frd
  simp only [Int.toNat_natCast, List.getD_eq_getElem?_getD]
  rw [List.getElem?_append_right (by simp), List.length_replicate, Nat.sub_self, List.getElem?_drop, Nat.add_zero]
theorem frd_set (xs : List S54) (k : Nat) (hk : k < xs.length) : (frd xs k).set k z54 = frd xs (k + 1) := by
  unfold frd
  rw [List.set_append_right _ _ (by simp), List.length_replicate, Nat.sub_self, List.drop_eq_getElem_cons hk, List.set_cons_zero, List.replicate_succ', List.append_assoc]
  rfl
theorem cells_new (w : World) (cs : Array Value) (t : TypeId) : ∀ j u, cs.toList[j]? = some u → (w.alloc (.cells cs t)).cell? ((⟨w.heap.size, 0, none⟩ : Addr).add j) = some u := by
  intro j u h
  rw [addr_at, cell_row isRow_new, rowAt_new]
  simpa using h
theorem infoL3 : (Try.prog.info? 54).map (fun i => (i.zero, i.size, i.bytes)) = some (some (.agg (enc z54)), 7, 56) := by kernel_rfl
theorem aside2_low' {g h : Nat} {w W w2 : World} (a : Aside2 g h w W) (b : Below w.heap.size W w2) : Aside2 g h w w2 :=
  ⟨b.os.trans a.os, b.tape.trans a.tape, b.output.trans a.output, Nat.le_trans a.size b.size, fun k hk h1 h2 => (b.block k hk).trans (a.block k hk h1 h2)⟩
theorem own_row {W : World} {n₀ g : Nat} {e : TypeId} {size : Nat} {v : Value} {k : Nat} {xs : List Value} {cs : Array Value} (h : W.ownsRow n₀ e size v k xs) (hg : g < n₀) : (W.setRow g cs).ownsRow n₀ e size v k xs :=
  own_move h (fun j hj => setRow_other W g j cs (by have := own_base h j hj; omega))
theorem own_set {W : World} {n₀ g : Nat} {e : TypeId} {size : Nat} {v : Value} {k : Nat} {xs : List Value} {cs : Array Value} (h : W.ownsRow n₀ e size v k xs) (hg : ∀ j, v.ownBlock = some j → j ≠ g) : (W.setRow g cs).ownsRow n₀ e size v k xs :=
  own_move h (fun j hj => setRow_other W g j cs (hg j hj))
theorem cells_new' (w : World) (B : Nat) (cs : Array Value) (t : TypeId) (hB : B = w.heap.size) : ∀ j u, cs.toList[j]? = some u → (w.alloc (.cells cs t)).cell? ((⟨B, 0, none⟩ : Addr).add j) = some u := by subst hB; exact cells_new w cs t
theorem fl_snoc (ys : List S54) (x : S54) : fl (ys ++ [x]) = fl ys ++ (enc x).toList := by rw [fl_append]; simp [fl]
attribute [local go_sem] Oper.semAt_some cell_row frozen_row isRow_setCell_eq rowAt_setCell_same rowAt_setCell_other isRow_alloc_eq rowAt_alloc rowAt_new rowAt_new' isRow_setRow_eq rowAt_setRow_same rowAt_setRow_other isRow_drew rowAt_drew size_setRow_ Lb_size Lb_at blk_ptr aggOf_agg below_alloc_e below_setCell_e below_setRow_e below_refl_e below_drew_r aside2_alloc_e aside2_setCell_e aside2_setRow_e aside2_drew_e aside2_refl_e aside2_drewN_e isRow_drewN rowAt_drewN below_drewN_e le_add_r offv_ptr one_lad zero_lad allOne_nil allOne_cons Value.oneCell' addr_at FA_size one_FA RV_size RV_get70 RV_get71 RV_at70 RV_at71 RV_at5 RV_low RV_set71 RV_ext RV_spl cell_setRow_other spl_full
attribute [local go_sem ↓] storeI storeC storeE run_clear_row storeLm
attribute [local go_sem] eq2i eq2b eq2u
set_option maxRecDepth 100000 in
set_option maxHeartbeats 4000000 in
theorem runload_c (g bl : Nat) (R : Array Value) (hR : R.size = 70) (n : Nat) (lost : Int) (xs : List S54) (w : World) (hr : isRow w g) (hr' : rowAt w g = (RV R (.slice (some ⟨bl, 0, none⟩) n n) (.int .i64 lost))) (hl : isRow w bl) (hl' : rowAt w bl = FA xs) (hne : ¬ g = bl) (hne' : ¬ bl = g) (HN : Hid (xs.length = n)) (hn16 : n ≤ 16) :
    Calls Try.prog 63 #[.pointer (some ⟨g, 0, none⟩)] w fun e w' => ∃ v, e = .returned v ∧ w'.ownsRow w.heap.size 54 7 v (nf xs).length (fl (nf xs)) ∧ Row w' g (RV R (.slice (some ⟨bl, 0, none⟩) n n) (.int .i64 lost)) ∧ Row w' bl (FA (List.replicate n z54)) ∧ Aside2 g bl w w' := by
  have _u : True := by have _ := hne; have _ := hne'; trivial
  clear _u
  obtain ⟨i0, hi, hz0, hz1, hz2⟩ := info_parts infoL3
  have hX : Aside2 g bl w w := .of_below (Below.refl _ _)
  have lr := hr.lt
  have ll := hl.lt
  have hnx := HN.out
  go_enter Try.func63, Try.ntmps63
  go_wp2_with fail
  go_loopw [3, 4] (fun v i wr => ∃ k : Nat, k ≤ n ∧ i = .int .i64 k ∧ wr.ownsRow w.heap.size 54 7 v (nf (xs.take k)).length (fl (nf (xs.take k))) ∧ Row wr g (RV R (.slice (some ⟨bl, 0, none⟩) n n) (.int .i64 lost)) ∧ Row wr bl (FA (frd xs k)) ∧ Aside2 g bl w wr) (fun _ i _ => n - (intOf i).toNat)
  case atStart => exact ⟨0, by omega, rfl, World.ownsRow_nil _ _ _ _, ⟨hr, hr'⟩, ⟨hl, by rw [hl']; unfold frd; simp⟩, hX⟩
  case round =>
    clear hr hr' hl hl' hX
    obtain ⟨k, hk, rfl, hrow, ⟨V2, V2'⟩, ⟨L2, L2'⟩, hB⟩ := hrel
    by_cases hkn : k < n
    · have k1 : (0 : Int) ≤ (k : Int) := by omega
      have k2 : (k : Int) < (n : Int) := by omega
      have hfl := frd_length xs k (by omega)
      obtain ⟨c0, c1, c2, c3, c4, c5, c6⟩ := FA_gets (frd xs k) k (by omega)
      rw [frd_at xs k] at c0 c1 c2 c3 c4 c5 c6
      have hset := frd_set xs k (by omega)
      have hnt := nf_take xs k (by omega)
      have hnl := nf_length (xs.take k)
      rw [List.length_take] at hnl
      have e2 : spl (FA (frd xs k)) (k * 7) (enc z54) = FA (frd xs (k + 1)) := by rw [← hset]; exact FA_spl _ _ _ (by omega)
      have hfit1 : k * 7 + 7 ≤ (FA (frd xs k)).size := by rw [FA_size, hfl]; omega
      have hsz : w.heap.size ≤ wr.heap.size := hB.size
      generalize hC1 : FA (frd xs k) = C1 at *
      generalize hC3 : FA (frd xs (k + 1)) = C3 at *
      generalize hY : nf (xs.take k) = ys at *
      generalize hE : rd_T54 xs k = el at *
      have hfe : fl (ys ++ [el]) = fl ys ++ (enc el).toList := fl_snoc ys el
      obtain ⟨s0, s1, s2, s3, s4, s5, s6⟩ := el
      simp only at c0 c1 c2 c3 c4 c5 c6 hnt
      unfold enc at e2
      have h0 : z54 = ⟨0, 0, 0, 0, false, 0, false⟩ := rfl
      rw [h0] at e2
      simp only at e2
      have HC3 := Lib.hid hC3
      have HFE := Lib.hid hfe
      by_cases hst : (s0 != 0) = true
      · rw [if_pos hst] at hnt
        have HNT := Lib.hid hnt
        clear hset hC1 hC3 hY hE hnt h0 hfe hfl hnx
        go_wp2_with (at_builtin; refine wpList_append_own _ rfl _ _ 22 rfl w.heap.size 54 i0 (.agg (enc z54)) 7 56 Try.underlying22 hi hz0 hz1 hz2 rfl (by decide) _ _ _ rfl (hrow.alloc _) ⟨wr.heap.size, 0, none⟩ 1 1 [.int .i64 s0, .int .i64 s1, .int .i64 s2, .int .i64 s3, .bool s4, .int .i64 s5, .bool s6] rfl rfl (cells_new _ #[.int .i64 s0, .int .i64 s1, .int .i64 s2, .int .i64 s3, .bool s4, .int .i64 s5, .bool s6] _) (by simp [Value.oneCell']) (by unfold maxLen; omega) (by omega) (by simp; omega) ?_; intro v' w1 hown' hgrow _; have hBo := own_below hrow hsz hgrow; obtain ⟨V3, V3'⟩ : Row w1 g (RV R (.slice (some ⟨bl, 0, none⟩) n n) (.int .i64 lost)) := Row.below ⟨V2, V2'⟩ hBo lr; obtain ⟨L3, L3'⟩ : Row w1 bl C1 := Row.below ⟨L2, L2'⟩ hBo ll)
        have o2 := own_row (g := bl) (cs := C3) hown' ll
        go_roundw
        case rel => exact ⟨k + 1, by omega, by go_num, by rw [HNT.out, HFE.out]; simpa [enc] using o2, ⟨by go_simp, by go_simp⟩, ⟨by go_simp, by rw [HC3.out]; go_simp⟩, by have h5 := aside2_low' hB hBo; go_simp⟩
        case measure => simp [intOf]; omega
      · rw [if_neg hst, List.append_nil] at hnt
        have hst' : (s0 != 0) = false := by simpa using hst
        have HNT := Lib.hid hnt
        clear hset hC1 hC3 hY hE hnt h0 hfe hst hfl hnx
        go_wp2
        have o2 := own_row (g := bl) (cs := C3) hrow ll
        go_roundw
        case rel => exact ⟨k + 1, by omega, by go_num, by rw [HNT.out]; exact o2, ⟨by go_simp, by go_simp⟩, ⟨by go_simp, by rw [HC3.out]; go_simp⟩, by go_simp⟩
        case measure => simp [intOf]; omega
    · obtain rfl : k = n := by omega
      rw [List.take_of_length_le (by omega)] at hrow
      have hfin : frd xs k = List.replicate k z54 := by unfold frd; rw [List.drop_of_length_le (by omega), List.append_nil]
      rw [hfin] at L2'
      have HR := Lib.hid hrow
      clear hrow hfin hnx
      go_wp2
      go_ret
      exact ⟨_, rfl, HR.out, ⟨V2, V2'⟩, ⟨L2, L2'⟩, hB⟩
end Go.Proofs.Ytkbaghblchlcnaa.Lr
