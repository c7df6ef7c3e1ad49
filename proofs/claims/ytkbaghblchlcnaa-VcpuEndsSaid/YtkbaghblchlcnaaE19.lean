/- Texts of this claim, put together: Vk, Vl, Vm, Vn, Vo, Vr, Vs0, Vs, Vt, Vu, Vv, Vw. -/
import Derived.Test.YtkbaghblchlcnaaE18
import Derived.Test.YtkbaghblchlcnaaE16
import Derived.Deep.RegionHeld3
import Derived.Deep.RegionWith
import Derived.Laws.CopyRow
import Derived.Laws.Append
import Derived.RegionTactic
import Derived.ChangeAlike
namespace Go.Proofs.Ytkbaghblchlcnaa.Lr
open Go.RowKit Go.Shelf Go.Proofs.YtkbaghblchlcnaaW.PrintWords Go.Proofs.Ytkbaghblchlcnaa.IAll
attribute [local go_sem] Oper.semAt_some cell_row frozen_row isRow_setCell_eq rowAt_setCell_same rowAt_setCell_other isRow_alloc_eq rowAt_alloc rowAt_new rowAt_new' isRow_setRow_eq rowAt_setRow_same rowAt_setRow_other isRow_drew rowAt_drew size_setRow_ Lb_size Lb_at blk_ptr aggOf_agg below_alloc_e below_setCell_e below_setRow_e below_refl_e below_drew_r aside2_alloc_e aside2_setCell_e aside2_setRow_e aside2_drew_e aside2_refl_e aside2_drewN_e isRow_drewN rowAt_drewN below_drewN_e le_add_r offv_ptr one_lad zero_lad allOne_nil allOne_cons Value.oneCell' addr_at FA_size one_FA RV_size RV_get70 RV_get71 RV_at70 RV_at71 RV_at5 RV_low RV_set71 RV_ext RV_spl RC_size zeroF zero_rc zero_rc2 RC_one
attribute [local go_sem ↓] storeI storeC storeE loadF0 storeF0 loadF storeF
attribute [local go_sem] eq2i eq2b eq2u
set_option maxRecDepth 100000 in
set_option maxHeartbeats 4000000 in
theorem rdo_a0 (g bl : Nat) (R : Array Value) (hR : R.size = 70) (n : Nat) (C : Array Value) (lost : Int) (R' : Array Value) (C' : Array Value) (lost' : Int) (w : World) (hr : isRow w g) (hr' : rowAt w g = (RV R (.slice (some ⟨bl, 0, none⟩) n n) (.int .i64 lost))) (hl : isRow w bl) (hl' : rowAt w bl = C) (hne : ¬ g = bl) (hne' : ¬ bl = g) (x y : Int) (x0 : 0 ≤ x) (hy : x % 16777216 = y) (y0 : 0 ≤ y) (y1 : y ≤ 16777215) (id : Int) (HA : Hid (∀ W : World, isRow W g → rowAt W g = (RV R (.slice (some ⟨bl, 0, none⟩) n n) (.int .i64 lost)) → isRow W bl → rowAt W bl = C → Calls Try.prog 84 #[.pointer (some ⟨g, 0, none⟩), .int .i64 0] W fun e w' => e = .returned (.int .i64 id) ∧ Row w' g (RV R' (.slice (some ⟨bl, 0, none⟩) n n) (.int .i64 lost')) ∧ Row w' bl C' ∧ Aside2 g bl W w')) :
    Calls Try.prog 64 #[.pointer (some ⟨g, 0, none⟩), .int .i64 1, .bool false, .int .u64 x] w fun e w' => e = .returned (.tuple #[.int .u64 (IntKind.u64.wrap id), .bool false, .int .i64 (-1), .bool true]) ∧ Row w' g (RV R' (.slice (some ⟨bl, 0, none⟩) n n) (.int .i64 lost')) ∧ Row w' bl C' ∧ Aside2 g bl w w' := by
  have _u : True := by have _ := hne; have _ := hne'; have _ := y0; have _ := y1; have _ := x0; have _ := hy; have _ := hR; trivial
  clear _u
  have hX : Aside2 g bl w w := .of_below (Below.refl _ _)
  have lr := hr.lt
  have ll := hl.lt
  have nr : ¬ g = w.heap.size := by omega
  have rn : ¬ w.heap.size = g := by omega
  have nl : ¬ bl = w.heap.size := by omega
  have ln : ¬ w.heap.size = bl := by omega
  have hB_0 : Below w.heap.size w w := Below.refl _ _
  go_enter Try.func64, Try.ntmps64
  go_wp2_with fail
  refine (HA.out _ (by go_simp) (by go_simp) (by go_simp) (by go_simp)).mono ?_
  rintro e v1 ⟨rfl, ⟨V_1, V_1'⟩, ⟨L_1, L_1'⟩, hA1⟩
  have hB_1 : Aside2 g bl w v1 := Aside2.trans (by go_simp) hA1
  clear hr hr' hl hl' hX hA1
  have hz_1 : w.heap.size ≤ v1.heap.size := hB_1.size
  have hl_V_1 := isRow.lt V_1
  have hl_L_1 := isRow.lt L_1
  go_wp2
  exact bodyPost_ret (v := .tuple #[.int .u64 (IntKind.u64.wrap id), .bool false, .int .i64 (-1), .bool true]) (by simp [results, Try.results64, go_sem]) rfl ⟨rfl, ⟨by go_simp, by go_simp⟩, ⟨by go_simp, by go_simp⟩, by go_simp⟩
set_option maxRecDepth 100000 in
set_option maxHeartbeats 4000000 in
theorem rdo_a1 (g bl : Nat) (R : Array Value) (hR : R.size = 70) (n : Nat) (C : Array Value) (lost : Int) (R' : Array Value) (C' : Array Value) (lost' : Int) (w : World) (hr : isRow w g) (hr' : rowAt w g = (RV R (.slice (some ⟨bl, 0, none⟩) n n) (.int .i64 lost))) (hl : isRow w bl) (hl' : rowAt w bl = C) (hne : ¬ g = bl) (hne' : ¬ bl = g) (x y : Int) (x0 : 0 ≤ x) (hy : x % 16777216 = y) (y0 : 0 ≤ y) (y1 : y ≤ 16777215) (id : Int) (HA : Hid (∀ W : World, isRow W g → rowAt W g = (RV R (.slice (some ⟨bl, 0, none⟩) n n) (.int .i64 lost)) → isRow W bl → rowAt W bl = C → Calls Try.prog 84 #[.pointer (some ⟨g, 0, none⟩), .int .i64 1] W fun e w' => e = .returned (.int .i64 id) ∧ Row w' g (RV R' (.slice (some ⟨bl, 0, none⟩) n n) (.int .i64 lost')) ∧ Row w' bl C' ∧ Aside2 g bl W w')) :
    Calls Try.prog 64 #[.pointer (some ⟨g, 0, none⟩), .int .i64 2, .bool false, .int .u64 x] w fun e w' => e = .returned (.tuple #[.int .u64 (IntKind.u64.wrap id), .bool false, .int .i64 (-1), .bool true]) ∧ Row w' g (RV R' (.slice (some ⟨bl, 0, none⟩) n n) (.int .i64 lost')) ∧ Row w' bl C' ∧ Aside2 g bl w w' := by
  have _u : True := by have _ := hne; have _ := hne'; have _ := y0; have _ := y1; have _ := x0; have _ := hy; have _ := hR; trivial
  clear _u
  have hX : Aside2 g bl w w := .of_below (Below.refl _ _)
  have lr := hr.lt
  have ll := hl.lt
  have nr : ¬ g = w.heap.size := by omega
  have rn : ¬ w.heap.size = g := by omega
  have nl : ¬ bl = w.heap.size := by omega
  have ln : ¬ w.heap.size = bl := by omega
  have hB_0 : Below w.heap.size w w := Below.refl _ _
  go_enter Try.func64, Try.ntmps64
  go_wp2_with fail
  refine (HA.out _ (by go_simp) (by go_simp) (by go_simp) (by go_simp)).mono ?_
  rintro e v1 ⟨rfl, ⟨V_1, V_1'⟩, ⟨L_1, L_1'⟩, hA1⟩
  have hB_1 : Aside2 g bl w v1 := Aside2.trans (by go_simp) hA1
  clear hr hr' hl hl' hX hA1
  have hz_1 : w.heap.size ≤ v1.heap.size := hB_1.size
  have hl_V_1 := isRow.lt V_1
  have hl_L_1 := isRow.lt L_1
  go_wp2
  exact bodyPost_ret (v := .tuple #[.int .u64 (IntKind.u64.wrap id), .bool false, .int .i64 (-1), .bool true]) (by simp [results, Try.results64, go_sem]) rfl ⟨rfl, ⟨by go_simp, by go_simp⟩, ⟨by go_simp, by go_simp⟩, by go_simp⟩
set_option maxRecDepth 100000 in
set_option maxHeartbeats 4000000 in
theorem rdo_s0 (g bl : Nat) (R : Array Value) (hR : R.size = 70) (n : Nat) (C : Array Value) (lost : Int)  (w : World) (hr : isRow w g) (hr' : rowAt w g = (RV R (.slice (some ⟨bl, 0, none⟩) n n) (.int .i64 lost))) (hl : isRow w bl) (hl' : rowAt w bl = C) (hne : ¬ g = bl) (hne' : ¬ bl = g) (x y : Int) (x0 : 0 ≤ x) (hy : x % 16777216 = y) (y0 : 0 ≤ y) (y1 : y ≤ 16777215) (id cid cpr cgr : Int) (cis : Bool) (HB : Hid (∀ W : World, isRow W bl → rowAt W bl = C → Calls Try.prog 58 #[.slice (some ⟨bl, 0, none⟩) n n] W fun e w' => e = .returned (.agg #[.int .i64 cid, .int .i64 cpr, .int .i64 cgr, .bool cis]) ∧ Below W.heap.size W w')) (HS : Hid (∀ W : World, Calls Try.prog 85 #[.agg R, .agg #[.int .i64 cid, .int .i64 cpr, .int .i64 cgr, .bool cis], .int .i64 0] W fun e w' => e = .returned (.int .i64 id) ∧ Below W.heap.size W w')) :
    Calls Try.prog 64 #[.pointer (some ⟨g, 0, none⟩), .int .i64 13, .bool false, .int .u64 x] w fun e w' => e = .returned (.tuple #[.int .u64 (IntKind.u64.wrap id), .bool false, .int .i64 (-1), .bool true]) ∧ Row w' g (RV R (.slice (some ⟨bl, 0, none⟩) n n) (.int .i64 lost)) ∧ Row w' bl C ∧ Aside2 g bl w w' := by
  have _u : True := by have _ := hne; have _ := hne'; have _ := y0; have _ := y1; have _ := x0; have _ := hy; have _ := hR; trivial
  clear _u
  have hX : Aside2 g bl w w := .of_below (Below.refl _ _)
  have lr := hr.lt
  have ll := hl.lt
  have nr : ¬ g = w.heap.size := by omega
  have rn : ¬ w.heap.size = g := by omega
  have nl : ¬ bl = w.heap.size := by omega
  have ln : ¬ w.heap.size = bl := by omega
  have hB_0 : Below w.heap.size w w := Below.refl _ _
  go_enter Try.func64, Try.ntmps64
  go_wp2_with fail
  refine wp_region_held_drew (S := fun w' => (isRow w' g ∧ rowAt w' g = (RV R (.slice (some ⟨bl, 0, none⟩) n n) (.int .i64 lost))) ∧ (isRow w' bl ∧ rowAt w' bl = C) ∧ Aside2 g bl w w') (by kernel_rfl) ⟨⟨by go_simp, by go_simp⟩, ⟨by go_simp, by go_simp⟩, by go_simp⟩ (fun hHeld => ?_)
  refine wpAnyH_take (i := 0) (oi := { dst := some 41, op := Op.move (Operand.tmp 0), type := 75, pos := "ref.go:127", after := #[], guard := none }) (v := ?_) rfl (by kernel_rfl) (by kernel_rfl) (by kernel_rfl) (fun _ _ _ h => h) (Or.inl ⟨by rfl, ?_⟩) (by assumption) ?_
  rotate_left
  · (intro w_ hS_; (try dsimp only at hS_); go_simp; try with_reducible rfl)
  try simp only [Act.put, List.setIfInBounds_toArray, List.set_cons_zero, List.set_cons_succ]
  refine wpAnyH_take (i := 1) (oi := { dst := some 42, op := Op.nilCheck (Operand.tmp 41), type := 0, pos := "ref.go:127", after := #[{ on := 0, ground := Ground.data }], guard := none }) (v := ?_) rfl (by kernel_rfl) (by kernel_rfl) (by kernel_rfl) (fun _ _ _ h => h) (Or.inl ⟨by rfl, ?_⟩) (by assumption) ?_
  rotate_left
  · (intro w_ hS_; (try dsimp only at hS_); go_simp; try with_reducible rfl)
  try simp only [Act.put, List.setIfInBounds_toArray, List.set_cons_zero, List.set_cons_succ]
  refine wpAnyH_take (i := 2) (oi := { dst := some 43, op := Op.fieldAddr 110 (Operand.tmp 42) 0, type := 0, pos := "ref.go:127", after := #[{ on := 1, ground := Ground.data }], guard := none }) (v := ?_) rfl (by kernel_rfl) (by kernel_rfl) (by kernel_rfl) (fun _ _ _ h => h) (Or.inl ⟨by rfl, ?_⟩) (by assumption) ?_
  rotate_left
  · (intro w_ hS_; (try dsimp only at hS_); go_simp; try with_reducible rfl)
  try simp only [Act.put, List.setIfInBounds_toArray, List.set_cons_zero, List.set_cons_succ]
  refine wpAnyH_take (i := 3) (oi := { dst := some 44, op := Op.load 107 (Operand.tmp 43), type := 107, pos := "ref.go:127", after := #[{ on := 2, ground := Ground.data }], guard := none }) (v := ?_) rfl (by kernel_rfl) (by kernel_rfl) (by kernel_rfl) (fun _ _ _ h => h) (Or.inl ⟨by rfl, ?_⟩) (by assumption) ?_
  rotate_left
  · (intro w_ hS_; (try dsimp only at hS_); go_simp; try with_reducible rfl)
  try simp only [Act.put, List.setIfInBounds_toArray, List.set_cons_zero, List.set_cons_succ]
  refine wpAnyH_take (i := 4) (oi := { dst := some 45, op := Op.move (Operand.tmp 0), type := 75, pos := "ref.go:127", after := #[], guard := none }) (v := ?_) rfl (by kernel_rfl) (by kernel_rfl) (by kernel_rfl) (fun _ _ _ h => h) (Or.inl ⟨by rfl, ?_⟩) (by assumption) ?_
  rotate_left
  · (intro w_ hS_; (try dsimp only at hS_); go_simp; try with_reducible rfl)
  try simp only [Act.put, List.setIfInBounds_toArray, List.set_cons_zero, List.set_cons_succ]
  refine wpAnyH_take (i := 5) (oi := { dst := some 46, op := Op.nilCheck (Operand.tmp 45), type := 0, pos := "ref.go:127", after := #[{ on := 4, ground := Ground.data }], guard := none }) (v := ?_) rfl (by kernel_rfl) (by kernel_rfl) (by kernel_rfl) (fun _ _ _ h => h) (Or.inl ⟨by rfl, ?_⟩) (by assumption) ?_
  rotate_left
  · (intro w_ hS_; (try dsimp only at hS_); go_simp; try with_reducible rfl)
  try simp only [Act.put, List.setIfInBounds_toArray, List.set_cons_zero, List.set_cons_succ]
  refine wpAnyH_take (i := 6) (oi := { dst := some 47, op := Op.fieldAddr 110 (Operand.tmp 46) 1, type := 0, pos := "ref.go:127", after := #[{ on := 5, ground := Ground.data }], guard := none }) (v := ?_) rfl (by kernel_rfl) (by kernel_rfl) (by kernel_rfl) (fun _ _ _ h => h) (Or.inl ⟨by rfl, ?_⟩) (by assumption) ?_
  rotate_left
  · (intro w_ hS_; (try dsimp only at hS_); go_simp; try with_reducible rfl)
  try simp only [Act.put, List.setIfInBounds_toArray, List.set_cons_zero, List.set_cons_succ]
  refine wpAnyH_take (i := 7) (oi := { dst := some 48, op := Op.load 22 (Operand.tmp 47), type := 22, pos := "ref.go:127", after := #[{ on := 6, ground := Ground.data }], guard := none }) (v := ?_) rfl (by kernel_rfl) (by kernel_rfl) (by kernel_rfl) (fun _ _ _ h => h) (Or.inl ⟨by rfl, ?_⟩) (by assumption) ?_
  rotate_left
  · (intro w_ hS_; (try dsimp only at hS_); go_simp; try with_reducible rfl)
  try simp only [Act.put, List.setIfInBounds_toArray, List.set_cons_zero, List.set_cons_succ]
  refine wpAnyH_ready (rs := [8]) (by kernel_rfl) (by simp) ?_
  refine AllReadyH.cons (o := { dst := some 49, op := Op.call { callee := Callee.value (Operand.func 58), args := #[Operand.tmp 48], argTypes := #[22] }, type := 47, pos := "ref.go:127", after := #[{ on := 7, ground := Ground.data }], guard := none }) rfl (fun K hK => ?_) AllReadyH.nil
  (have hq_ := hHeld; (try dsimp only at hq_))
  obtain ⟨⟨PV_1_1, PV_1_1'⟩, ⟨PL_1_1, PL_1_1'⟩, hF_1_1⟩ := hq_
  go_simp
  refine (HB.out _ (by go_simp) (by go_simp)).mono ?_
  rintro e u1_1 ⟨rfl, hb⟩
  refine hK.out _ _ ?_ (fun hHeld => ?_)
  · exact ⟨⟨rk1 PV_1_1 hb, rk2 PV_1_1 PV_1_1' hb⟩, ⟨rk1 PL_1_1 hb, rk2 PL_1_1 PL_1_1' hb⟩, Aside2.low hF_1_1 hb⟩
  clear hK K
  try simp only [Act.put, List.setIfInBounds_toArray, List.set_cons_zero, List.set_cons_succ]
  refine wpAnyH_ready (rs := [9]) (by kernel_rfl) (by simp) ?_
  refine AllReadyH.cons (o := { dst := some 50, op := Op.call { callee := Callee.value (Operand.func 85), args := #[Operand.tmp 44, Operand.tmp 49, Operand.const (Value.int IntKind.i64 0)], argTypes := #[107, 47, 3] }, type := 3, pos := "ref.go:127", after := #[{ on := 3, ground := Ground.data }, { on := 8, ground := Ground.data }, { on := 8, ground := Ground.chain }], guard := none }) rfl (fun K hK => ?_) AllReadyH.nil
  (have hq_ := hHeld; (try dsimp only at hq_))
  obtain ⟨⟨PV_1_2, PV_1_2'⟩, ⟨PL_1_2, PL_1_2'⟩, hF_1_2⟩ := hq_
  go_simp
  refine (HS.out _).mono ?_
  rintro e u1_2 ⟨rfl, hb⟩
  refine hK.out _ _ ?_ (fun hHeld => ?_)
  · exact ⟨⟨rk1 PV_1_2 hb, rk2 PV_1_2 PV_1_2' hb⟩, ⟨rk1 PL_1_2 hb, rk2 PL_1_2 PL_1_2' hb⟩, Aside2.low hF_1_2 hb⟩
  clear hK K
  try simp only [Act.put, List.setIfInBounds_toArray, List.set_cons_zero, List.set_cons_succ]
  refine wpAnyH_take (i := 10) (oi := { dst := some 51, op := Op.convert 3 67 (Operand.tmp 50), type := 67, pos := "ref.go:127", after := #[{ on := 9, ground := Ground.data }], guard := none }) (v := ?_) rfl (by kernel_rfl) (by kernel_rfl) (by kernel_rfl) (fun _ _ _ h => h) (Or.inl ⟨by rfl, ?_⟩) (by assumption) ?_
  rotate_left
  · (intro w_ hS_; (try dsimp only at hS_); go_simp; try with_reducible rfl)
  try simp only [Act.put, List.setIfInBounds_toArray, List.set_cons_zero, List.set_cons_succ]
  refine wpAnyH_take (i := 11) (oi := { dst := some 8, op := Op.assign (Operand.tmp 51), type := 67, pos := "ref.go:127", after := #[{ on := 10, ground := Ground.data }, { on := 9, ground := Ground.chain }, { on := 0, ground := Ground.phase }, { on := 1, ground := Ground.phase }, { on := 2, ground := Ground.phase }, { on := 3, ground := Ground.phase }, { on := 4, ground := Ground.phase }, { on := 5, ground := Ground.phase }, { on := 6, ground := Ground.phase }, { on := 7, ground := Ground.phase }, { on := 8, ground := Ground.phase }, { on := 9, ground := Ground.phase }, { on := 10, ground := Ground.phase }], guard := none }) (v := ?_) rfl (by kernel_rfl) (by kernel_rfl) (by kernel_rfl) (fun _ _ _ h => h) (Or.inl ⟨by rfl, ?_⟩) (by assumption) ?_
  rotate_left
  · (intro w_ hS_; (try dsimp only at hS_); go_simp; try with_reducible rfl)
  try simp only [Act.put, List.setIfInBounds_toArray, List.set_cons_zero, List.set_cons_succ]
  refine wpAnyH_take (i := 12) (oi := { dst := some 9, op := Op.assign (Operand.const (Value.bool false)), type := 4, pos := "ref.go:127", after := #[{ on := 11, ground := Ground.chain }, { on := 0, ground := Ground.phase }, { on := 1, ground := Ground.phase }, { on := 2, ground := Ground.phase }, { on := 3, ground := Ground.phase }, { on := 4, ground := Ground.phase }, { on := 5, ground := Ground.phase }, { on := 6, ground := Ground.phase }, { on := 7, ground := Ground.phase }, { on := 8, ground := Ground.phase }, { on := 9, ground := Ground.phase }, { on := 10, ground := Ground.phase }, { on := 11, ground := Ground.phase }], guard := none }) (v := ?_) rfl (by kernel_rfl) (by kernel_rfl) (by kernel_rfl) (fun _ _ _ h => h) (Or.inl ⟨by rfl, ?_⟩) (by assumption) ?_
  rotate_left
  · (intro w_ hS_; (try dsimp only at hS_); go_simp; try with_reducible rfl)
  try simp only [Act.put, List.setIfInBounds_toArray, List.set_cons_zero, List.set_cons_succ]
  refine wpAnyH_take (i := 13) (oi := { dst := some 10, op := Op.assign (Operand.const (Value.int IntKind.i64 (-1))), type := 3, pos := "ref.go:127", after := #[{ on := 12, ground := Ground.chain }, { on := 0, ground := Ground.phase }, { on := 1, ground := Ground.phase }, { on := 2, ground := Ground.phase }, { on := 3, ground := Ground.phase }, { on := 4, ground := Ground.phase }, { on := 5, ground := Ground.phase }, { on := 6, ground := Ground.phase }, { on := 7, ground := Ground.phase }, { on := 8, ground := Ground.phase }, { on := 9, ground := Ground.phase }, { on := 10, ground := Ground.phase }, { on := 11, ground := Ground.phase }, { on := 12, ground := Ground.phase }], guard := none }) (v := ?_) rfl (by kernel_rfl) (by kernel_rfl) (by kernel_rfl) (fun _ _ _ h => h) (Or.inl ⟨by rfl, ?_⟩) (by assumption) ?_
  rotate_left
  · (intro w_ hS_; (try dsimp only at hS_); go_simp; try with_reducible rfl)
  try simp only [Act.put, List.setIfInBounds_toArray, List.set_cons_zero, List.set_cons_succ]
  refine wpAnyH_take (i := 14) (oi := { dst := some 11, op := Op.assign (Operand.const (Value.bool true)), type := 4, pos := "ref.go:127", after := #[{ on := 13, ground := Ground.chain }, { on := 0, ground := Ground.phase }, { on := 1, ground := Ground.phase }, { on := 2, ground := Ground.phase }, { on := 3, ground := Ground.phase }, { on := 4, ground := Ground.phase }, { on := 5, ground := Ground.phase }, { on := 6, ground := Ground.phase }, { on := 7, ground := Ground.phase }, { on := 8, ground := Ground.phase }, { on := 9, ground := Ground.phase }, { on := 10, ground := Ground.phase }, { on := 11, ground := Ground.phase }, { on := 12, ground := Ground.phase }, { on := 13, ground := Ground.phase }], guard := none }) (v := ?_) rfl (by kernel_rfl) (by kernel_rfl) (by kernel_rfl) (fun _ _ _ h => h) (Or.inl ⟨by rfl, ?_⟩) (by assumption) ?_
  rotate_left
  · (intro w_ hS_; (try dsimp only at hS_); go_simp; try with_reducible rfl)
  try simp only [Act.put, List.setIfInBounds_toArray, List.set_cons_zero, List.set_cons_succ]
  refine wpAnyH_done (by kernel_rfl) ?_ _
  (try dsimp only at hHeld)
  go_split_ands
  go_wp2
  exact bodyPost_ret (v := .tuple #[.int .u64 (IntKind.u64.wrap id), .bool false, .int .i64 (-1), .bool true]) (by simp [results, Try.results64, go_sem]) rfl ⟨rfl, ⟨by go_simp, by go_simp⟩, ⟨by go_simp, by go_simp⟩, by go_simp⟩
set_option maxRecDepth 100000 in
set_option maxHeartbeats 4000000 in
theorem rdo_s1 (g bl : Nat) (R : Array Value) (hR : R.size = 70) (n : Nat) (C : Array Value) (lost : Int)  (w : World) (hr : isRow w g) (hr' : rowAt w g = (RV R (.slice (some ⟨bl, 0, none⟩) n n) (.int .i64 lost))) (hl : isRow w bl) (hl' : rowAt w bl = C) (hne : ¬ g = bl) (hne' : ¬ bl = g) (x y : Int) (x0 : 0 ≤ x) (hy : x % 16777216 = y) (y0 : 0 ≤ y) (y1 : y ≤ 16777215) (id cid cpr cgr : Int) (cis : Bool) (HB : Hid (∀ W : World, isRow W bl → rowAt W bl = C → Calls Try.prog 58 #[.slice (some ⟨bl, 0, none⟩) n n] W fun e w' => e = .returned (.agg #[.int .i64 cid, .int .i64 cpr, .int .i64 cgr, .bool cis]) ∧ Below W.heap.size W w')) (HS : Hid (∀ W : World, Calls Try.prog 85 #[.agg R, .agg #[.int .i64 cid, .int .i64 cpr, .int .i64 cgr, .bool cis], .int .i64 1] W fun e w' => e = .returned (.int .i64 id) ∧ Below W.heap.size W w')) :
    Calls Try.prog 64 #[.pointer (some ⟨g, 0, none⟩), .int .i64 14, .bool false, .int .u64 x] w fun e w' => e = .returned (.tuple #[.int .u64 (IntKind.u64.wrap id), .bool false, .int .i64 (-1), .bool true]) ∧ Row w' g (RV R (.slice (some ⟨bl, 0, none⟩) n n) (.int .i64 lost)) ∧ Row w' bl C ∧ Aside2 g bl w w' := by
  have _u : True := by have _ := hne; have _ := hne'; have _ := y0; have _ := y1; have _ := x0; have _ := hy; have _ := hR; trivial
  clear _u
  have hX : Aside2 g bl w w := .of_below (Below.refl _ _)
  have lr := hr.lt
  have ll := hl.lt
  have nr : ¬ g = w.heap.size := by omega
  have rn : ¬ w.heap.size = g := by omega
  have nl : ¬ bl = w.heap.size := by omega
  have ln : ¬ w.heap.size = bl := by omega
  have hB_0 : Below w.heap.size w w := Below.refl _ _
  go_enter Try.func64, Try.ntmps64
  go_wp2_with fail
  refine wp_region_held_drew (S := fun w' => (isRow w' g ∧ rowAt w' g = (RV R (.slice (some ⟨bl, 0, none⟩) n n) (.int .i64 lost))) ∧ (isRow w' bl ∧ rowAt w' bl = C) ∧ Aside2 g bl w w') (by kernel_rfl) ⟨⟨by go_simp, by go_simp⟩, ⟨by go_simp, by go_simp⟩, by go_simp⟩ (fun hHeld => ?_)
  refine wpAnyH_take (i := 0) (oi := { dst := some 54, op := Op.move (Operand.tmp 0), type := 75, pos := "ref.go:129", after := #[], guard := none }) (v := ?_) rfl (by kernel_rfl) (by kernel_rfl) (by kernel_rfl) (fun _ _ _ h => h) (Or.inl ⟨by rfl, ?_⟩) (by assumption) ?_
  rotate_left
  · (intro w_ hS_; (try dsimp only at hS_); go_simp; try with_reducible rfl)
  try simp only [Act.put, List.setIfInBounds_toArray, List.set_cons_zero, List.set_cons_succ]
  refine wpAnyH_take (i := 1) (oi := { dst := some 55, op := Op.nilCheck (Operand.tmp 54), type := 0, pos := "ref.go:129", after := #[{ on := 0, ground := Ground.data }], guard := none }) (v := ?_) rfl (by kernel_rfl) (by kernel_rfl) (by kernel_rfl) (fun _ _ _ h => h) (Or.inl ⟨by rfl, ?_⟩) (by assumption) ?_
  rotate_left
  · (intro w_ hS_; (try dsimp only at hS_); go_simp; try with_reducible rfl)
  try simp only [Act.put, List.setIfInBounds_toArray, List.set_cons_zero, List.set_cons_succ]
  refine wpAnyH_take (i := 2) (oi := { dst := some 56, op := Op.fieldAddr 110 (Operand.tmp 55) 0, type := 0, pos := "ref.go:129", after := #[{ on := 1, ground := Ground.data }], guard := none }) (v := ?_) rfl (by kernel_rfl) (by kernel_rfl) (by kernel_rfl) (fun _ _ _ h => h) (Or.inl ⟨by rfl, ?_⟩) (by assumption) ?_
  rotate_left
  · (intro w_ hS_; (try dsimp only at hS_); go_simp; try with_reducible rfl)
  try simp only [Act.put, List.setIfInBounds_toArray, List.set_cons_zero, List.set_cons_succ]
  refine wpAnyH_take (i := 3) (oi := { dst := some 57, op := Op.load 107 (Operand.tmp 56), type := 107, pos := "ref.go:129", after := #[{ on := 2, ground := Ground.data }], guard := none }) (v := ?_) rfl (by kernel_rfl) (by kernel_rfl) (by kernel_rfl) (fun _ _ _ h => h) (Or.inl ⟨by rfl, ?_⟩) (by assumption) ?_
  rotate_left
  · (intro w_ hS_; (try dsimp only at hS_); go_simp; try with_reducible rfl)
  try simp only [Act.put, List.setIfInBounds_toArray, List.set_cons_zero, List.set_cons_succ]
  refine wpAnyH_take (i := 4) (oi := { dst := some 58, op := Op.move (Operand.tmp 0), type := 75, pos := "ref.go:129", after := #[], guard := none }) (v := ?_) rfl (by kernel_rfl) (by kernel_rfl) (by kernel_rfl) (fun _ _ _ h => h) (Or.inl ⟨by rfl, ?_⟩) (by assumption) ?_
  rotate_left
  · (intro w_ hS_; (try dsimp only at hS_); go_simp; try with_reducible rfl)
  try simp only [Act.put, List.setIfInBounds_toArray, List.set_cons_zero, List.set_cons_succ]
  refine wpAnyH_take (i := 5) (oi := { dst := some 59, op := Op.nilCheck (Operand.tmp 58), type := 0, pos := "ref.go:129", after := #[{ on := 4, ground := Ground.data }], guard := none }) (v := ?_) rfl (by kernel_rfl) (by kernel_rfl) (by kernel_rfl) (fun _ _ _ h => h) (Or.inl ⟨by rfl, ?_⟩) (by assumption) ?_
  rotate_left
  · (intro w_ hS_; (try dsimp only at hS_); go_simp; try with_reducible rfl)
  try simp only [Act.put, List.setIfInBounds_toArray, List.set_cons_zero, List.set_cons_succ]
  refine wpAnyH_take (i := 6) (oi := { dst := some 60, op := Op.fieldAddr 110 (Operand.tmp 59) 1, type := 0, pos := "ref.go:129", after := #[{ on := 5, ground := Ground.data }], guard := none }) (v := ?_) rfl (by kernel_rfl) (by kernel_rfl) (by kernel_rfl) (fun _ _ _ h => h) (Or.inl ⟨by rfl, ?_⟩) (by assumption) ?_
  rotate_left
  · (intro w_ hS_; (try dsimp only at hS_); go_simp; try with_reducible rfl)
  try simp only [Act.put, List.setIfInBounds_toArray, List.set_cons_zero, List.set_cons_succ]
  refine wpAnyH_take (i := 7) (oi := { dst := some 61, op := Op.load 22 (Operand.tmp 60), type := 22, pos := "ref.go:129", after := #[{ on := 6, ground := Ground.data }], guard := none }) (v := ?_) rfl (by kernel_rfl) (by kernel_rfl) (by kernel_rfl) (fun _ _ _ h => h) (Or.inl ⟨by rfl, ?_⟩) (by assumption) ?_
  rotate_left
  · (intro w_ hS_; (try dsimp only at hS_); go_simp; try with_reducible rfl)
  try simp only [Act.put, List.setIfInBounds_toArray, List.set_cons_zero, List.set_cons_succ]
  refine wpAnyH_ready (rs := [8]) (by kernel_rfl) (by simp) ?_
  refine AllReadyH.cons (o := { dst := some 62, op := Op.call { callee := Callee.value (Operand.func 58), args := #[Operand.tmp 61], argTypes := #[22] }, type := 47, pos := "ref.go:129", after := #[{ on := 7, ground := Ground.data }], guard := none }) rfl (fun K hK => ?_) AllReadyH.nil
  (have hq_ := hHeld; (try dsimp only at hq_))
  obtain ⟨⟨PV_1_1, PV_1_1'⟩, ⟨PL_1_1, PL_1_1'⟩, hF_1_1⟩ := hq_
  go_simp
  refine (HB.out _ (by go_simp) (by go_simp)).mono ?_
  rintro e u1_1 ⟨rfl, hb⟩
  refine hK.out _ _ ?_ (fun hHeld => ?_)
  · exact ⟨⟨rk1 PV_1_1 hb, rk2 PV_1_1 PV_1_1' hb⟩, ⟨rk1 PL_1_1 hb, rk2 PL_1_1 PL_1_1' hb⟩, Aside2.low hF_1_1 hb⟩
  clear hK K
  try simp only [Act.put, List.setIfInBounds_toArray, List.set_cons_zero, List.set_cons_succ]
  refine wpAnyH_ready (rs := [9]) (by kernel_rfl) (by simp) ?_
  refine AllReadyH.cons (o := { dst := some 63, op := Op.call { callee := Callee.value (Operand.func 85), args := #[Operand.tmp 57, Operand.tmp 62, Operand.const (Value.int IntKind.i64 1)], argTypes := #[107, 47, 3] }, type := 3, pos := "ref.go:129", after := #[{ on := 3, ground := Ground.data }, { on := 8, ground := Ground.data }, { on := 8, ground := Ground.chain }], guard := none }) rfl (fun K hK => ?_) AllReadyH.nil
  (have hq_ := hHeld; (try dsimp only at hq_))
  obtain ⟨⟨PV_1_2, PV_1_2'⟩, ⟨PL_1_2, PL_1_2'⟩, hF_1_2⟩ := hq_
  go_simp
  refine (HS.out _).mono ?_
  rintro e u1_2 ⟨rfl, hb⟩
  refine hK.out _ _ ?_ (fun hHeld => ?_)
  · exact ⟨⟨rk1 PV_1_2 hb, rk2 PV_1_2 PV_1_2' hb⟩, ⟨rk1 PL_1_2 hb, rk2 PL_1_2 PL_1_2' hb⟩, Aside2.low hF_1_2 hb⟩
  clear hK K
  try simp only [Act.put, List.setIfInBounds_toArray, List.set_cons_zero, List.set_cons_succ]
  refine wpAnyH_take (i := 10) (oi := { dst := some 64, op := Op.convert 3 67 (Operand.tmp 63), type := 67, pos := "ref.go:129", after := #[{ on := 9, ground := Ground.data }], guard := none }) (v := ?_) rfl (by kernel_rfl) (by kernel_rfl) (by kernel_rfl) (fun _ _ _ h => h) (Or.inl ⟨by rfl, ?_⟩) (by assumption) ?_
  rotate_left
  · (intro w_ hS_; (try dsimp only at hS_); go_simp; try with_reducible rfl)
  try simp only [Act.put, List.setIfInBounds_toArray, List.set_cons_zero, List.set_cons_succ]
  refine wpAnyH_take (i := 11) (oi := { dst := some 8, op := Op.assign (Operand.tmp 64), type := 67, pos := "ref.go:129", after := #[{ on := 10, ground := Ground.data }, { on := 9, ground := Ground.chain }, { on := 0, ground := Ground.phase }, { on := 1, ground := Ground.phase }, { on := 2, ground := Ground.phase }, { on := 3, ground := Ground.phase }, { on := 4, ground := Ground.phase }, { on := 5, ground := Ground.phase }, { on := 6, ground := Ground.phase }, { on := 7, ground := Ground.phase }, { on := 8, ground := Ground.phase }, { on := 9, ground := Ground.phase }, { on := 10, ground := Ground.phase }], guard := none }) (v := ?_) rfl (by kernel_rfl) (by kernel_rfl) (by kernel_rfl) (fun _ _ _ h => h) (Or.inl ⟨by rfl, ?_⟩) (by assumption) ?_
  rotate_left
  · (intro w_ hS_; (try dsimp only at hS_); go_simp; try with_reducible rfl)
  try simp only [Act.put, List.setIfInBounds_toArray, List.set_cons_zero, List.set_cons_succ]
  refine wpAnyH_take (i := 12) (oi := { dst := some 9, op := Op.assign (Operand.const (Value.bool false)), type := 4, pos := "ref.go:129", after := #[{ on := 11, ground := Ground.chain }, { on := 0, ground := Ground.phase }, { on := 1, ground := Ground.phase }, { on := 2, ground := Ground.phase }, { on := 3, ground := Ground.phase }, { on := 4, ground := Ground.phase }, { on := 5, ground := Ground.phase }, { on := 6, ground := Ground.phase }, { on := 7, ground := Ground.phase }, { on := 8, ground := Ground.phase }, { on := 9, ground := Ground.phase }, { on := 10, ground := Ground.phase }, { on := 11, ground := Ground.phase }], guard := none }) (v := ?_) rfl (by kernel_rfl) (by kernel_rfl) (by kernel_rfl) (fun _ _ _ h => h) (Or.inl ⟨by rfl, ?_⟩) (by assumption) ?_
  rotate_left
  · (intro w_ hS_; (try dsimp only at hS_); go_simp; try with_reducible rfl)
  try simp only [Act.put, List.setIfInBounds_toArray, List.set_cons_zero, List.set_cons_succ]
  refine wpAnyH_take (i := 13) (oi := { dst := some 10, op := Op.assign (Operand.const (Value.int IntKind.i64 (-1))), type := 3, pos := "ref.go:129", after := #[{ on := 12, ground := Ground.chain }, { on := 0, ground := Ground.phase }, { on := 1, ground := Ground.phase }, { on := 2, ground := Ground.phase }, { on := 3, ground := Ground.phase }, { on := 4, ground := Ground.phase }, { on := 5, ground := Ground.phase }, { on := 6, ground := Ground.phase }, { on := 7, ground := Ground.phase }, { on := 8, ground := Ground.phase }, { on := 9, ground := Ground.phase }, { on := 10, ground := Ground.phase }, { on := 11, ground := Ground.phase }, { on := 12, ground := Ground.phase }], guard := none }) (v := ?_) rfl (by kernel_rfl) (by kernel_rfl) (by kernel_rfl) (fun _ _ _ h => h) (Or.inl ⟨by rfl, ?_⟩) (by assumption) ?_
  rotate_left
  · (intro w_ hS_; (try dsimp only at hS_); go_simp; try with_reducible rfl)
  try simp only [Act.put, List.setIfInBounds_toArray, List.set_cons_zero, List.set_cons_succ]
  refine wpAnyH_take (i := 14) (oi := { dst := some 11, op := Op.assign (Operand.const (Value.bool true)), type := 4, pos := "ref.go:129", after := #[{ on := 13, ground := Ground.chain }, { on := 0, ground := Ground.phase }, { on := 1, ground := Ground.phase }, { on := 2, ground := Ground.phase }, { on := 3, ground := Ground.phase }, { on := 4, ground := Ground.phase }, { on := 5, ground := Ground.phase }, { on := 6, ground := Ground.phase }, { on := 7, ground := Ground.phase }, { on := 8, ground := Ground.phase }, { on := 9, ground := Ground.phase }, { on := 10, ground := Ground.phase }, { on := 11, ground := Ground.phase }, { on := 12, ground := Ground.phase }, { on := 13, ground := Ground.phase }], guard := none }) (v := ?_) rfl (by kernel_rfl) (by kernel_rfl) (by kernel_rfl) (fun _ _ _ h => h) (Or.inl ⟨by rfl, ?_⟩) (by assumption) ?_
  rotate_left
  · (intro w_ hS_; (try dsimp only at hS_); go_simp; try with_reducible rfl)
  try simp only [Act.put, List.setIfInBounds_toArray, List.set_cons_zero, List.set_cons_succ]
  refine wpAnyH_done (by kernel_rfl) ?_ _
  (try dsimp only at hHeld)
  go_split_ands
  go_wp2
  exact bodyPost_ret (v := .tuple #[.int .u64 (IntKind.u64.wrap id), .bool false, .int .i64 (-1), .bool true]) (by simp [results, Try.results64, go_sem]) rfl ⟨rfl, ⟨by go_simp, by go_simp⟩, ⟨by go_simp, by go_simp⟩, by go_simp⟩
set_option maxRecDepth 100000 in
set_option maxHeartbeats 4000000 in
theorem rdo_e0 (g bl : Nat) (R : Array Value) (hR : R.size = 70) (n : Nat) (C : Array Value) (lost : Int) (R' : Array Value) (C' : Array Value) (lost' : Int) (w : World) (hr : isRow w g) (hr' : rowAt w g = (RV R (.slice (some ⟨bl, 0, none⟩) n n) (.int .i64 lost))) (hl : isRow w bl) (hl' : rowAt w bl = C) (hne : ¬ g = bl) (hne' : ¬ bl = g) (x y : Int) (x0 : 0 ≤ x) (hy : x % 16777216 = y) (y0 : 0 ≤ y) (y1 : y ≤ 16777215) (ok : Bool) (mm : Int) (HE : Hid (∀ W : World, isRow W g → rowAt W g = (RV R (.slice (some ⟨bl, 0, none⟩) n n) (.int .i64 lost)) → isRow W bl → rowAt W bl = C → Calls Try.prog 87 #[.pointer (some ⟨g, 0, none⟩), .int .i64 0, .int .i64 y] W fun e w' => e = .returned (.tuple #[.bool ok, .int .i64 mm]) ∧ Row w' g (RV R' (.slice (some ⟨bl, 0, none⟩) n n) (.int .i64 lost')) ∧ Row w' bl C' ∧ Aside2 g bl W w')) :
    Calls Try.prog 64 #[.pointer (some ⟨g, 0, none⟩), .int .i64 3, .bool true, .int .u64 x] w fun e w' => e = .returned (.tuple #[.int .u64 0, .bool ok, .int .i64 mm, .bool true]) ∧ Row w' g (RV R' (.slice (some ⟨bl, 0, none⟩) n n) (.int .i64 lost')) ∧ Row w' bl C' ∧ Aside2 g bl w w' := by
  have _u : True := by have _ := hne; have _ := hne'; have _ := y0; have _ := y1; have _ := x0; have _ := hy; have _ := hR; trivial
  clear _u
  have hX : Aside2 g bl w w := .of_below (Below.refl _ _)
  have lr := hr.lt
  have ll := hl.lt
  have nr : ¬ g = w.heap.size := by omega
  have rn : ¬ w.heap.size = g := by omega
  have nl : ¬ bl = w.heap.size := by omega
  have ln : ¬ w.heap.size = bl := by omega
  have hB_0 : Below w.heap.size w w := Below.refl _ _
  go_enter Try.func64, Try.ntmps64
  go_wp2_with fail
  refine (HE.out _ (by go_simp) (by go_simp) (by go_simp) (by go_simp)).mono ?_
  rintro e v1 ⟨rfl, ⟨V_1, V_1'⟩, ⟨L_1, L_1'⟩, hA1⟩
  have hB_1 : Aside2 g bl w v1 := Aside2.trans (by go_simp) hA1
  clear hr hr' hl hl' hX hA1
  have hz_1 : w.heap.size ≤ v1.heap.size := hB_1.size
  have hl_V_1 := isRow.lt V_1
  have hl_L_1 := isRow.lt L_1
  go_wp2
  exact bodyPost_ret (v := .tuple #[.int .u64 0, .bool ok, .int .i64 mm, .bool true]) (by simp [results, Try.results64, go_sem]) rfl ⟨rfl, ⟨by go_simp, by go_simp⟩, ⟨by go_simp, by go_simp⟩, by go_simp⟩
set_option maxRecDepth 100000 in
set_option maxHeartbeats 4000000 in
theorem rdo_e1 (g bl : Nat) (R : Array Value) (hR : R.size = 70) (n : Nat) (C : Array Value) (lost : Int) (R' : Array Value) (C' : Array Value) (lost' : Int) (w : World) (hr : isRow w g) (hr' : rowAt w g = (RV R (.slice (some ⟨bl, 0, none⟩) n n) (.int .i64 lost))) (hl : isRow w bl) (hl' : rowAt w bl = C) (hne : ¬ g = bl) (hne' : ¬ bl = g) (x y : Int) (x0 : 0 ≤ x) (hy : x % 16777216 = y) (y0 : 0 ≤ y) (y1 : y ≤ 16777215) (ok : Bool) (mm : Int) (HE : Hid (∀ W : World, isRow W g → rowAt W g = (RV R (.slice (some ⟨bl, 0, none⟩) n n) (.int .i64 lost)) → isRow W bl → rowAt W bl = C → Calls Try.prog 87 #[.pointer (some ⟨g, 0, none⟩), .int .i64 1, .int .i64 y] W fun e w' => e = .returned (.tuple #[.bool ok, .int .i64 mm]) ∧ Row w' g (RV R' (.slice (some ⟨bl, 0, none⟩) n n) (.int .i64 lost')) ∧ Row w' bl C' ∧ Aside2 g bl W w')) :
    Calls Try.prog 64 #[.pointer (some ⟨g, 0, none⟩), .int .i64 4, .bool true, .int .u64 x] w fun e w' => e = .returned (.tuple #[.int .u64 0, .bool ok, .int .i64 mm, .bool true]) ∧ Row w' g (RV R' (.slice (some ⟨bl, 0, none⟩) n n) (.int .i64 lost')) ∧ Row w' bl C' ∧ Aside2 g bl w w' := by
  have _u : True := by have _ := hne; have _ := hne'; have _ := y0; have _ := y1; have _ := x0; have _ := hy; have _ := hR; trivial
  clear _u
  have hX : Aside2 g bl w w := .of_below (Below.refl _ _)
  have lr := hr.lt
  have ll := hl.lt
  have nr : ¬ g = w.heap.size := by omega
  have rn : ¬ w.heap.size = g := by omega
  have nl : ¬ bl = w.heap.size := by omega
  have ln : ¬ w.heap.size = bl := by omega
  have hB_0 : Below w.heap.size w w := Below.refl _ _
  go_enter Try.func64, Try.ntmps64
  go_wp2_with fail
  refine (HE.out _ (by go_simp) (by go_simp) (by go_simp) (by go_simp)).mono ?_
  rintro e v1 ⟨rfl, ⟨V_1, V_1'⟩, ⟨L_1, L_1'⟩, hA1⟩
  have hB_1 : Aside2 g bl w v1 := Aside2.trans (by go_simp) hA1
  clear hr hr' hl hl' hX hA1
  have hz_1 : w.heap.size ≤ v1.heap.size := hB_1.size
  have hl_V_1 := isRow.lt V_1
  have hl_L_1 := isRow.lt L_1
  go_wp2
  exact bodyPost_ret (v := .tuple #[.int .u64 0, .bool ok, .int .i64 mm, .bool true]) (by simp [results, Try.results64, go_sem]) rfl ⟨rfl, ⟨by go_simp, by go_simp⟩, ⟨by go_simp, by go_simp⟩, by go_simp⟩
set_option maxRecDepth 100000 in
set_option maxHeartbeats 4000000 in
theorem rdo_d (g bl : Nat) (R : Array Value) (hR : R.size = 70) (n : Nat) (C : Array Value) (lost : Int) (R' : Array Value) (C' : Array Value) (lost' : Int) (w : World) (hr : isRow w g) (hr' : rowAt w g = (RV R (.slice (some ⟨bl, 0, none⟩) n n) (.int .i64 lost))) (hl : isRow w bl) (hl' : rowAt w bl = C) (hne : ¬ g = bl) (hne' : ¬ bl = g) (x y : Int) (x0 : 0 ≤ x) (hy : x % 16777216 = y) (y0 : 0 ≤ y) (y1 : y ≤ 16777215) (ok : Bool) (mm : Int) (HE : Hid (∀ W : World, isRow W g → rowAt W g = (RV R (.slice (some ⟨bl, 0, none⟩) n n) (.int .i64 lost)) → isRow W bl → rowAt W bl = C → Calls Try.prog 88 #[.pointer (some ⟨g, 0, none⟩), .int .i64 y] W fun e w' => e = .returned (.tuple #[.bool ok, .int .i64 mm]) ∧ Row w' g (RV R' (.slice (some ⟨bl, 0, none⟩) n n) (.int .i64 lost')) ∧ Row w' bl C' ∧ Aside2 g bl W w')) :
    Calls Try.prog 64 #[.pointer (some ⟨g, 0, none⟩), .int .i64 5, .bool true, .int .u64 x] w fun e w' => e = .returned (.tuple #[.int .u64 0, .bool ok, .int .i64 mm, .bool true]) ∧ Row w' g (RV R' (.slice (some ⟨bl, 0, none⟩) n n) (.int .i64 lost')) ∧ Row w' bl C' ∧ Aside2 g bl w w' := by
  have _u : True := by have _ := hne; have _ := hne'; have _ := y0; have _ := y1; have _ := x0; have _ := hy; have _ := hR; trivial
  clear _u
  have hX : Aside2 g bl w w := .of_below (Below.refl _ _)
  have lr := hr.lt
  have ll := hl.lt
  have nr : ¬ g = w.heap.size := by omega
  have rn : ¬ w.heap.size = g := by omega
  have nl : ¬ bl = w.heap.size := by omega
  have ln : ¬ w.heap.size = bl := by omega
  have hB_0 : Below w.heap.size w w := Below.refl _ _
  go_enter Try.func64, Try.ntmps64
  go_wp2_with fail
  refine (HE.out _ (by go_simp) (by go_simp) (by go_simp) (by go_simp)).mono ?_
  rintro e v1 ⟨rfl, ⟨V_1, V_1'⟩, ⟨L_1, L_1'⟩, hA1⟩
  have hB_1 : Aside2 g bl w v1 := Aside2.trans (by go_simp) hA1
  clear hr hr' hl hl' hX hA1
  have hz_1 : w.heap.size ≤ v1.heap.size := hB_1.size
  have hl_V_1 := isRow.lt V_1
  have hl_L_1 := isRow.lt L_1
  go_wp2
  exact bodyPost_ret (v := .tuple #[.int .u64 0, .bool ok, .int .i64 mm, .bool true]) (by simp [results, Try.results64, go_sem]) rfl ⟨rfl, ⟨by go_simp, by go_simp⟩, ⟨by go_simp, by go_simp⟩, by go_simp⟩
set_option maxRecDepth 100000 in
set_option maxHeartbeats 4000000 in
theorem rdo_w (g bl : Nat) (R : Array Value) (hR : R.size = 70) (n : Nat) (C : Array Value) (lost : Int) (R' : Array Value) (hR' : R'.size = 70) (hO : AllOne R') (w : World) (hr : isRow w g) (hr' : rowAt w g = (RV R (.slice (some ⟨bl, 0, none⟩) n n) (.int .i64 lost))) (hl : isRow w bl) (hl' : rowAt w bl = C) (hne : ¬ g = bl) (hne' : ¬ bl = g) (x y : Int) (x0 : 0 ≤ x) (hy : x % 16777216 = y) (y0 : 0 ≤ y) (y1 : y ≤ 16777215) (r : Int) (t3 : (r == 3) = false) (t4 : (r == 4) = false) (t5 : (r == 5) = false) (ok : Bool) (HW : Hid (∀ W : World, Calls Try.prog 89 #[.agg R, .int .i64 r, .int .u64 x] W fun e w' => e = .returned (.tuple #[.agg R', .bool ok]) ∧ Below W.heap.size W w')) :
    Calls Try.prog 64 #[.pointer (some ⟨g, 0, none⟩), .int .i64 r, .bool true, .int .u64 x] w fun e w' => e = .returned (.tuple #[.int .u64 0, .bool false, .int .i64 (-1), .bool ok]) ∧ Row w' g (RV R' (.slice (some ⟨bl, 0, none⟩) n n) (.int .i64 lost)) ∧ Row w' bl C ∧ Aside2 g bl w w' := by
  have _u : True := by have _ := hne; have _ := hne'; have _ := y0; have _ := y1; have _ := x0; have _ := hy; have _ := hR; trivial
  clear _u
  have hX : Aside2 g bl w w := .of_below (Below.refl _ _)
  have lr := hr.lt
  have ll := hl.lt
  have nr : ¬ g = w.heap.size := by omega
  have rn : ¬ w.heap.size = g := by omega
  have nl : ¬ bl = w.heap.size := by omega
  have ln : ¬ w.heap.size = bl := by omega
  have hB_0 : Below w.heap.size w w := Below.refl _ _
  go_enter Try.func64, Try.ntmps64
  go_wp2_with fail
  refine (HW.out _).mono ?_
  rintro e v1 ⟨rfl, hb1⟩
  obtain ⟨V_1, V_1'⟩ : Row v1 g (RV R (.slice (some ⟨bl, 0, none⟩) n n) (.int .i64 lost)) := Row.step (by go_simp) (by go_simp) hb1
  obtain ⟨L_1, L_1'⟩ : Row v1 bl C := Row.step (by go_simp) (by go_simp) hb1
  have hB_1 : Aside2 g bl w v1 := Aside2.low (by go_simp) hb1
  clear hr hr' hl hl' hX hb1
  have hz_1 : w.heap.size ≤ v1.heap.size := hB_1.size
  have hl_V_1 := isRow.lt V_1
  have ne_V_1_0 : ¬ g = v1.heap.size := by omega
  have en_V_1_0 : ¬ v1.heap.size = g := by omega
  have hl_L_1 := isRow.lt L_1
  have ne_L_1_0 : ¬ bl = v1.heap.size := by omega
  have en_L_1_0 : ¬ v1.heap.size = bl := by omega
  have ne_V_X : ¬ g = v1.heap.size := by omega
  have en_V_X : ¬ v1.heap.size = g := by omega
  have ne_L_X : ¬ bl = v1.heap.size := by omega
  have en_L_X : ¬ v1.heap.size = bl := by omega
  go_wp2
  exact bodyPost_ret (v := .tuple #[.int .u64 0, .bool false, .int .i64 (-1), .bool ok]) (by simp [results, Try.results64, go_sem]) rfl ⟨rfl, ⟨by go_simp, by go_simp⟩, ⟨by go_simp, by go_simp⟩, by go_simp⟩
set_option maxRecDepth 100000 in
set_option maxHeartbeats 4000000 in
theorem rdo_r (g bl : Nat) (R : Array Value) (hR : R.size = 70) (n : Nat) (C : Array Value) (lost : Int)  (w : World) (hr : isRow w g) (hr' : rowAt w g = (RV R (.slice (some ⟨bl, 0, none⟩) n n) (.int .i64 lost))) (hl : isRow w bl) (hl' : rowAt w bl = C) (hne : ¬ g = bl) (hne' : ¬ bl = g) (x y : Int) (x0 : 0 ≤ x) (hy : x % 16777216 = y) (y0 : 0 ≤ y) (y1 : y ≤ 16777215) (r : Int) (t1 : (r == 1) = false) (t2 : (r == 2) = false) (t13 : (r == 13) = false) (t14 : (r == 14) = false) (id : Int) (ok : Bool) (HR : Hid (∀ W : World, Calls Try.prog 86 #[.agg R, .int .i64 r] W fun e w' => e = .returned (.tuple #[.int .u64 id, .bool ok]) ∧ Below W.heap.size W w')) :
    Calls Try.prog 64 #[.pointer (some ⟨g, 0, none⟩), .int .i64 r, .bool false, .int .u64 x] w fun e w' => e = .returned (.tuple #[.int .u64 id, .bool false, .int .i64 (-1), .bool ok]) ∧ Row w' g (RV R (.slice (some ⟨bl, 0, none⟩) n n) (.int .i64 lost)) ∧ Row w' bl C ∧ Aside2 g bl w w' := by
  have _u : True := by have _ := hne; have _ := hne'; have _ := y0; have _ := y1; have _ := x0; have _ := hy; have _ := hR; trivial
  clear _u
  have hX : Aside2 g bl w w := .of_below (Below.refl _ _)
  have lr := hr.lt
  have ll := hl.lt
  have nr : ¬ g = w.heap.size := by omega
  have rn : ¬ w.heap.size = g := by omega
  have nl : ¬ bl = w.heap.size := by omega
  have ln : ¬ w.heap.size = bl := by omega
  have hB_0 : Below w.heap.size w w := Below.refl _ _
  go_enter Try.func64, Try.ntmps64
  go_wp2_with fail
  refine (HR.out _).mono ?_
  rintro e v1 ⟨rfl, hb1⟩
  obtain ⟨V_1, V_1'⟩ : Row v1 g (RV R (.slice (some ⟨bl, 0, none⟩) n n) (.int .i64 lost)) := Row.step (by go_simp) (by go_simp) hb1
  obtain ⟨L_1, L_1'⟩ : Row v1 bl C := Row.step (by go_simp) (by go_simp) hb1
  have hB_1 : Aside2 g bl w v1 := Aside2.low (by go_simp) hb1
  clear hr hr' hl hl' hX hb1
  have hz_1 : w.heap.size ≤ v1.heap.size := hB_1.size
  have hl_V_1 := isRow.lt V_1
  have hl_L_1 := isRow.lt L_1
  go_wp2
  exact bodyPost_ret (v := .tuple #[.int .u64 id, .bool false, .int .i64 (-1), .bool ok]) (by simp [results, Try.results64, go_sem]) rfl ⟨rfl, ⟨by go_simp, by go_simp⟩, ⟨by go_simp, by go_simp⟩, by go_simp⟩
end Go.Proofs.Ytkbaghblchlcnaa.Lr
namespace Go.Proofs.Ytkbaghblchlcnaa.Lr
open Go.RowKit Go.Shelf Go.Proofs.YtkbaghblchlcnaaW.PrintWords Go.Proofs.Ytkbaghblchlcnaa.IAll
theorem zeroCells_FA (n : Nat) : Builtin.zeroCells (enc z54) n = FA (List.replicate n z54) := by
  apply Array.ext
  · rw [FA_size]; simp [Builtin.zeroCells, enc]
  · intro i h1 h2
    have hi : i < n * 7 := by rw [FA_size] at h2; simpa using h2
    have hk : i / 7 < n := by omega
    have hg := FA_get (List.replicate n z54) (i / 7) (i % 7) (by simpa using hk) (by omega)
    rw [show i / 7 * 7 + i % 7 = i by omega, Array.getElem?_eq_getElem h2] at hg
    have e : (List.replicate n z54).getD (i / 7) z54 = z54 := by
      rw [List.getD_eq_getElem?_getD, List.getElem?_replicate]; split <;> rfl
    rw [e] at hg
    have hm : i % 7 < (enc z54).size := by simp [enc]; omega
    have : (Builtin.zeroCells (enc z54) n)[i] = (enc z54)[i % 7]! := by simp [Builtin.zeroCells, enc]
    rw [this]
    have h3 : (enc z54).toList[i % 7]? = some ((enc z54)[i % 7]!) := by
      rw [getElem!_pos (enc z54) (i % 7) hm, Array.getElem?_toList, Array.getElem?_eq_getElem hm]
    rw [h3] at hg
    exact (Option.some.inj hg).symm
theorem fl_append (xs ys : List S54) : fl (xs ++ ys) = fl xs ++ fl ys := by simp [fl]
theorem fl_drop (xs : List S54) : ∀ k : Nat, (fl xs).drop (k * 7) = fl (xs.drop k) := by
  induction xs with
  | nil => intro k; simp [fl]
  | cons x xs ih =>
    intro k
    cases k with
    | zero => simp
    | succ k =>
      rw [fl_cons, show (k + 1) * 7 = (enc x).toList.length + k * 7 by simp [enc]; omega, ← List.drop_drop, List.drop_left]
      exact ih k
theorem fl_take (xs : List S54) : ∀ k : Nat, (fl xs).take (k * 7) = fl (xs.take k) := by
  induction xs with
  | nil => intro k; simp [fl]
  | cons x xs ih =>
    intro k
    cases k with
    | zero => simp [fl]
    | succ k =>
      rw [fl_cons, show (k + 1) * 7 = (enc x).toList.length + k * 7 by simp [enc]; omega, List.take_length_add_append, ih k, List.take_succ_cons, fl_cons]
theorem one_fl (xs : List S54) : ∀ v ∈ fl xs, v.oneCell' = true := by
  intro v hv
  simp only [fl, List.mem_flatMap] at hv
  obtain ⟨x, _, hx⟩ := hv
  simp [enc] at hx
  rcases hx with rfl | rfl | rfl | rfl | rfl | rfl | rfl <;> rfl
theorem run_clear_row {w : World} {bl n c : Nat} {ty : TypeId} (h : isRow w bl) (hs : (rowAt w bl).size = n * 7) (hn : 0 < n) :
    (Builtin.clear_ #[22] ty #[.slice (some ⟨bl, 0, none⟩) n c]).run Try.prog w = .ok (.tuple #[]) (w.setRow bl (FA (List.replicate n z54))) := by
  obtain ⟨t, ht⟩ := h.box
  have hst := run_storeCells_at Try.prog bl 0 t (fl (List.replicate n z54)) 0 (rowAt w bl) w ht (by rw [fl_length, hs]; simp) (one_fl _)
  have hfin : ((rowAt w bl).toList.take (0 + 0) ++ fl (List.replicate n z54) ++ (rowAt w bl).toList.drop (0 + 0 + (fl (List.replicate n z54)).length)).toArray = FA (List.replicate n z54) := by
    unfold FA
    rw [fl_length, List.drop_of_length_le (by simp [hs])]
    simp
  rw [hfin] at hst
  obtain ⟨k, rfl⟩ : ∃ k, n = k + 1 := ⟨n - 1, by omega⟩
  have hz : (Builtin.zeroCells (Value.agg #[.int .i64 0, .int .i64 0, .int .i64 0, .int .i64 0, .bool false, .int .i64 0, .bool false]).cells (k + 1)).toList = fl (List.replicate (k + 1) z54) := by
    show (Builtin.zeroCells (enc z54) (k + 1)).toList = _
    rw [zeroCells_FA]; rfl
  simp [Builtin.clear_, run_underlying Try.underlying22, hz, hst]
/-- the cells of the first ones of a slice that is read -/
theorem C_cells {w : World} {A : Option Addr} {ls : List S54} (h : Kd.C k54 w A ls.length ls) (hn : 0 < ls.length) : ∃ ad, A = some ad ∧ ∀ j v, (fl ls)[j]? = some v → w.cell? (ad.add j) = some v := by
  obtain ⟨-, -, h3⟩ := h
  obtain ⟨ad, e, hc⟩ := h3 hn
  refine ⟨ad, e, fun j v hv => ?_⟩
  have hj : j < ls.length * 7 := by have := (List.getElem?_eq_some_iff.1 hv).1; rwa [fl_length] at this
  have hk : j / 7 < ls.length := by omega
  obtain ⟨c, hcl, hK, hcell⟩ := hc (j / 7) _ (List.getElem?_eq_getElem hk)
  obtain rfl := k54_open hK
  have hg := fl_get ls (j / 7) (j % 7) hk (by omega)
  rw [show j / 7 * 7 + j % 7 = j by omega, hv] at hg
  have := hcell (j % 7) v (by
    rw [hg, List.getD_eq_getElem?_getD, List.getElem?_eq_getElem hk]; rfl)
  rwa [show j / 7 * k54.sz + j % 7 = j from (show j / 7 * 7 + j % 7 = j by omega)] at this
theorem C_far {w W : World} {A : Option Addr} {ls : List S54} (h : Kd.C k54 w A ls.length ls) (hb : ∀ ad, A = some ad → 0 < ls.length → W.heap[ad.block]? = w.heap[ad.block]?) : Kd.C k54 W A ls.length ls := by
  obtain ⟨h1, h2, h3⟩ := h
  refine ⟨h1, h2, fun hn => ?_⟩
  obtain ⟨ad, e, hc⟩ := h3 hn
  refine ⟨ad, e, fun j p hp => ?_⟩
  obtain ⟨c, hcl, hK, hcell⟩ := hc j p hp
  obtain rfl := k54_open hK
  refine ⟨_, hcl, k54_mk W p, fun i u hu => ?_⟩
  rw [World.cell?_of_block (show W.heap[(ad.add (j * k54.sz + i)).block]? = w.heap[(ad.add (j * k54.sz + i)).block]? from by
    have : (ad.add (j * k54.sz + i)).block = ad.block := by unfold Addr.add; split <;> rfl
    rw [this]; exact hb ad e hn)]
  exact hcell i u hu
theorem infoLz : (Try.prog.info? 54).map (·.size) = some 7 := by kernel_rfl
theorem run_copy_row {w : World} {bl n c c' : Nat} {ty : TypeId} {A : Option Addr} {ls : List S54} (h : isRow w bl) (hs : (rowAt w bl).size = n * 7) (hC : Kd.C k54 w A ls.length ls) (hk : ls.length ≤ n) :
    (Builtin.copy_ #[22, 22] ty #[.slice (some ⟨bl, 0, none⟩) n c, .slice A ls.length c']).run Try.prog w = .ok (goInt ls.length) (w.setRow bl (spl (rowAt w bl) 0 (FA ls))) := by
  obtain ⟨t, ht⟩ := h.box
  have hst := run_storeCells_at Try.prog bl 0 t (fl ls) 0 (rowAt w bl) w ht (by rw [fl_length, hs]; omega) (one_fl _)
  have hfin : ((rowAt w bl).toList.take (0 + 0) ++ fl ls ++ (rowAt w bl).toList.drop (0 + 0 + (fl ls).length)).toArray = spl (rowAt w bl) 0 (FA ls) := by
    unfold spl FA; simp
  rw [hfin] at hst
  have hmin : Nat.min ls.length n = ls.length := Nat.min_eq_left hk
  have hsz : (Go.sizeOf 54).run Try.prog w = .ok 7 w := by
    obtain ⟨i, hi, hi7⟩ := Option.map_eq_some_iff.1 infoLz
    simp [Go.sizeOf, typeInfo, hi, hi7]
  have hfirst : (Builtin.firstCells 7 ls.length (.slice A ls.length c')).run Try.prog w = .ok (FA ls) w := by
    by_cases h0 : ls.length = 0
    · obtain rfl : ls = [] := List.eq_nil_of_length_eq_zero h0
      cases A with
      | none => simp [Builtin.firstCells, FA, fl]
      | some ad => simp [Builtin.firstCells, FA, fl, loadCells, loadCellsFrom]
    · obtain ⟨ad, rfl, hc⟩ := C_cells hC (by omega)
      exact run_firstCells_some w 7 ls.length ad ls.length c' (fl ls) (fl_length ls) hc
  simp only [Builtin.copy_, Builtin.lenOf]
  simp [run_underlying Try.underlying22, hmin, hsz, hfirst, FA, hst]
theorem spl_zero (n : Nat) (ls : List S54) : spl (FA (List.replicate n z54)) 0 (FA ls) = FA (ls ++ List.replicate (n - ls.length) z54) := by
  unfold spl
  rw [FA_size]
  unfold FA
  rw [fl_append]
  congr 1
  simp only [List.take_zero, List.nil_append, Nat.zero_add]
  congr 1
  show (fl (List.replicate n z54)).drop (ls.length * 7) = _
  rw [fl_drop, List.drop_replicate]
end Go.Proofs.Ytkbaghblchlcnaa.Lr
namespace Go.Proofs.Ytkbaghblchlcnaa.Lr
open Go.RowKit Go.Shelf Go.Proofs.YtkbaghblchlcnaaW.PrintWords Go.Proofs.Ytkbaghblchlcnaa.IAll
attribute [local go_sem] Oper.semAt_some cell_row frozen_row isRow_setCell_eq rowAt_setCell_same rowAt_setCell_other isRow_alloc_eq rowAt_alloc rowAt_new rowAt_new' isRow_setRow_eq rowAt_setRow_same rowAt_setRow_other isRow_drew rowAt_drew size_setRow_ Lb_size Lb_at blk_ptr aggOf_agg below_alloc_e below_setCell_e below_setRow_e below_refl_e below_drew_r aside2_alloc_e aside2_setCell_e aside2_setRow_e aside2_drew_e aside2_refl_e aside2_drewN_e isRow_drewN rowAt_drewN below_drewN_e le_add_r offv_ptr one_lad zero_lad allOne_nil allOne_cons Value.oneCell' addr_at FA_size one_FA spl_zero
attribute [local go_sem ↓] storeI storeC storeE run_clear_row run_copy_row
attribute [local go_sem] eq2i eq2b eq2u
set_option maxRecDepth 100000 in
set_option maxHeartbeats 4000000 in
theorem load_big (g bl : Nat) (m p0 p1 : Int) (o0 o1 sp : Bool) (a b : Int) (n : Nat) (C : Array Value) (lost : Int) (A : Option Addr) (c : Nat) (ls : List S54) (w : World) (hr : isRow w g) (hr' : rowAt w g = #[.int .i64 m, .int .i64 p0, .int .i64 p1, .bool o0, .bool o1, .bool sp, .int .u32 a, .int .u32 b, .slice (some ⟨bl, 0, none⟩) n n, .int .i64 lost]) (hl : isRow w bl) (hl' : rowAt w bl = C) (hne : ¬ g = bl) (hne' : ¬ bl = g) (hlt : n < ls.length) :
    Calls Try.prog 16 #[.pointer (some ⟨g, 0, none⟩), .slice A ls.length c] w fun e w' => e = .returned (.int .i64 1) ∧ Row w' g #[.int .i64 m, .int .i64 p0, .int .i64 p1, .bool o0, .bool o1, .bool sp, .int .u32 a, .int .u32 b, .slice (some ⟨bl, 0, none⟩) n n, .int .i64 lost] ∧ Row w' bl C ∧ Aside2 g bl w w' := by
  have _u : True := by have _ := hne; have _ := hne'; trivial
  clear _u
  have hX : Aside2 g bl w w := .of_below (Below.refl _ _)
  have lr := hr.lt
  have ll := hl.lt
  have hlt1 : (n : Int) < (ls.length : Int) := by omega
  have hB_0 : Below w.heap.size w w := Below.refl _ _
  go_enter Try.func16, Try.ntmps16
  go_wp2
  go_ret
  exact ⟨rfl, ⟨by go_simp, by go_simp⟩, ⟨by go_simp, by go_simp⟩, by go_simp⟩
set_option maxRecDepth 100000 in
set_option maxHeartbeats 4000000 in
theorem load_bad (g bl : Nat) (m p0 p1 : Int) (o0 o1 sp : Bool) (a b : Int) (n : Nat) (C : Array Value) (lost : Int) (A : Option Addr) (c : Nat) (ls : List S54) (w : World) (hr : isRow w g) (hr' : rowAt w g = #[.int .i64 m, .int .i64 p0, .int .i64 p1, .bool o0, .bool o1, .bool sp, .int .u32 a, .int .u32 b, .slice (some ⟨bl, 0, none⟩) n n, .int .i64 lost]) (hl : isRow w bl) (hl' : rowAt w bl = C) (hne : ¬ g = bl) (hne' : ¬ bl = g) (hlt : ¬ n < ls.length) (HC : Hid (Kd.C k54 w A ls.length ls)) (HRT : Hid (∀ W : World, Kd.C k54 W A ls.length ls → Calls Try.prog 38 #[.slice A ls.length c] W fun e w' => e = .returned (.int .i64 200) ∧ Below W.heap.size W w')) :
    Calls Try.prog 16 #[.pointer (some ⟨g, 0, none⟩), .slice A ls.length c] w fun e w' => e = .returned (.int .i64 200) ∧ Row w' g #[.int .i64 m, .int .i64 p0, .int .i64 p1, .bool o0, .bool o1, .bool sp, .int .u32 a, .int .u32 b, .slice (some ⟨bl, 0, none⟩) n n, .int .i64 lost] ∧ Row w' bl C ∧ Aside2 g bl w w' := by
  have _u : True := by have _ := hne; have _ := hne'; trivial
  clear _u
  have hX : Aside2 g bl w w := .of_below (Below.refl _ _)
  have lr := hr.lt
  have ll := hl.lt
  have hlt1 : ¬ (n : Int) < (ls.length : Int) := by omega
  have hB_0 : Below w.heap.size w w := Below.refl _ _
  go_enter Try.func16, Try.ntmps16
  go_wp2_with fail
  refine (HRT.out _ HC.out).mono ?_
  rintro e v1 ⟨rfl, hb1⟩
  obtain ⟨V_1, V_1'⟩ : Row v1 g #[.int .i64 m, .int .i64 p0, .int .i64 p1, .bool o0, .bool o1, .bool sp, .int .u32 a, .int .u32 b, .slice (some ⟨bl, 0, none⟩) n n, .int .i64 lost] := Row.step (by go_simp) (by go_simp) hb1
  obtain ⟨L_1, L_1'⟩ : Row v1 bl C := Row.step (by go_simp) (by go_simp) hb1
  have hB_1 : Aside2 g bl w v1 := Aside2.low (by go_simp) hb1
  clear hr hr' hl hl' hX hb1
  go_wp2
  go_ret
  exact ⟨rfl, ⟨by go_simp, by go_simp⟩, ⟨by go_simp, by go_simp⟩, by go_simp⟩
set_option maxRecDepth 100000 in
set_option maxHeartbeats 4000000 in
theorem load_ok (g bl : Nat) (m p0 p1 : Int) (o0 o1 sp : Bool) (a b : Int) (n : Nat) (C : Array Value) (lost : Int) (A : Option Addr) (c : Nat) (ls : List S54) (w : World) (hr : isRow w g) (hr' : rowAt w g = #[.int .i64 m, .int .i64 p0, .int .i64 p1, .bool o0, .bool o1, .bool sp, .int .u32 a, .int .u32 b, .slice (some ⟨bl, 0, none⟩) n n, .int .i64 lost]) (hl : isRow w bl) (hl' : rowAt w bl = C) (hne : ¬ g = bl) (hne' : ¬ bl = g) (hlt : ¬ n < ls.length) (HC : Hid (Kd.C k54 w A ls.length ls)) (HRT : Hid (∀ W : World, Kd.C k54 W A ls.length ls → Calls Try.prog 38 #[.slice A ls.length c] W fun e w' => e = .returned (.int .i64 0) ∧ Below W.heap.size W w')) (hC7 : C.size = n * 7) (hn : 0 < n) (hA : ∀ ad, A = some ad → 0 < ls.length → ad.block < w.heap.size ∧ ad.block ≠ bl) :
    Calls Try.prog 16 #[.pointer (some ⟨g, 0, none⟩), .slice A ls.length c] w fun e w' => e = .returned (.int .i64 0) ∧ Row w' g #[.int .i64 m, .int .i64 p0, .int .i64 p1, .bool o0, .bool o1, .bool sp, .int .u32 a, .int .u32 b, .slice (some ⟨bl, 0, none⟩) n n, .int .i64 lost] ∧ Row w' bl (FA (ls ++ List.replicate (n - ls.length) z54)) ∧ Aside2 g bl w w' := by
  have _u : True := by have _ := hne; have _ := hne'; trivial
  clear _u
  have hX : Aside2 g bl w w := .of_below (Below.refl _ _)
  have lr := hr.lt
  have ll := hl.lt
  have hlt1 : ¬ (n : Int) < (ls.length : Int) := by omega
  have hB_0 : Below w.heap.size w w := Below.refl _ _
  go_enter Try.func16, Try.ntmps16
  go_wp2_with fail
  refine (HRT.out _ HC.out).mono ?_
  rintro e v1 ⟨rfl, hb1⟩
  obtain ⟨V_1, V_1'⟩ : Row v1 g #[.int .i64 m, .int .i64 p0, .int .i64 p1, .bool o0, .bool o1, .bool sp, .int .u32 a, .int .u32 b, .slice (some ⟨bl, 0, none⟩) n n, .int .i64 lost] := Row.step (by go_simp) (by go_simp) hb1
  obtain ⟨L_1, L_1'⟩ : Row v1 bl C := Row.step (by go_simp) (by go_simp) hb1
  have hB_1 : Aside2 g bl w v1 := Aside2.low (by go_simp) hb1
  have hC1 : Kd.C k54 (v1.setRow bl (FA (List.replicate n z54))) A ls.length ls := C_far (Kd.C_below HC.out hb1) (fun ad e h => setRow_other _ _ _ _ (hA ad e h).2)
  have hln : ls.length ≤ n := by omega
  clear hr hr' hl hl' hX hb1
  go_wp2
  go_ret
  exact ⟨rfl, ⟨by go_simp, by go_simp⟩, ⟨by go_simp, by go_simp⟩, by go_simp⟩
end Go.Proofs.Ytkbaghblchlcnaa.Lr
namespace Go.Proofs.Ytkbaghblchlcnaa.Lr
open Go.RowKit Go.Shelf Go.Proofs.YtkbaghblchlcnaaW.PrintWords Go.Proofs.Ytkbaghblchlcnaa.IAll
theorem cell_setRow_other {w : World} {k : Nat} {cs : Array Value} {p : Addr} (h : ¬ p.block = k) : (w.setRow k cs).cell? p = w.cell? p := World.cell?_of_block (setRow_other w k p.block cs h)
theorem FA_spl (ys : List S54) (k : Nat) (x : S54) (hk : k < ys.length) : spl (FA ys) (k * 7) (enc x) = FA (ys.set k x) := by
  unfold spl
  have h7 : (enc x).size = 7 := rfl
  rw [h7]
  unfold FA
  congr 1
  show (fl ys).take (k * 7) ++ (enc x).toList ++ (fl ys).drop (k * 7 + 7) = _
  rw [fl_take, show k * 7 + 7 = (k + 1) * 7 by omega, fl_drop, List.set_eq_take_append_cons_drop, if_pos hk, fl_append, fl_cons, List.append_assoc]
/-- what is loaded, in as many -/
def tgt (ls : List S54) (n : Nat) : List S54 := ls ++ List.replicate (n - ls.length) z54
def mixL (ls xs : List S54) (k : Nat) : List S54 := (tgt ls xs.length).take k ++ xs.drop k
theorem tgt_length (ls : List S54) (n : Nat) (h : ls.length ≤ n) : (tgt ls n).length = n := by unfold tgt; simp; omega
theorem mix_length (ls xs : List S54) (h : ls.length ≤ xs.length) (k : Nat) (hk : k ≤ xs.length) : (mixL ls xs k).length = xs.length := by unfold mixL; rw [List.length_append, List.length_take, tgt_length ls _ h, List.length_drop]; omega
theorem mix_set (ls xs : List S54) (h : ls.length ≤ xs.length) (k : Nat) (hk : k < xs.length) : (mixL ls xs k).set k ((tgt ls xs.length).getD k z54) = mixL ls xs (k + 1) := by
  have hl := tgt_length ls xs.length h
  unfold mixL
  have hlt : ((tgt ls xs.length).take k).length = k := by rw [List.length_take, hl]; omega
  rw [List.set_append_right _ _ (by omega), hlt, Nat.sub_self, List.drop_eq_getElem_cons hk, List.set_cons_zero, List.take_succ_eq_append_getElem (by omega), List.append_assoc]
  simp only [List.singleton_append]
  rw [List.getD_eq_getElem?_getD, List.getElem?_eq_getElem (by omega)]; rfl
theorem tgt_lo (ls : List S54) (n k : Nat) (h : k < ls.length) : (tgt ls n).getD k z54 = rd_T54 ls k := by
  unfold tgt rd_T54
  rw [List.getD_eq_getElem?_getD, List.getElem?_append_left h, Int.toNat_natCast, List.getD_eq_getElem?_getD]
theorem tgt_hi (ls : List S54) (n k : Nat) (h : ¬ k < ls.length) : (tgt ls n).getD k z54 = z54 := by
  unfold tgt
  rw [List.getD_eq_getElem?_getD, List.getElem?_append_right (by omega), List.getElem?_replicate]
  split <;> rfl
section
variable {w : World} {ρ : Operand → Value} {x y : Operand} {dst : Option Tmp} {t0 : TypeId} {pos : String} {af : Array Edge} {gd : Option (Nat × Bool)}
theorem storeLm (hx : ρ x = .pointer (some ⟨blk (ρ x), offv (ρ x), none⟩)) (hy : ρ y = .agg (aggOf (ρ y))) (h : isRow w (blk (ρ x))) (hs : offv (ρ x) + 7 ≤ (rowAt w (blk (ρ x))).size) (hc : (aggOf (ρ y)).size = 7) (h1 : AllOne (aggOf (ρ y))) : (execOp ρ { dst := dst, op := .store 54 x y, type := t0, pos := pos, after := af, guard := gd }).run Try.prog w = .ok .skip (w.setRow (blk (ρ x)) (spl (rowAt w (blk (ρ x))) (offv (ρ x)) (aggOf (ρ y)))) := run_store_mid_op infoLz hx hy h hs hc h1
end
attribute [local go_sem] Oper.semAt_some cell_row frozen_row isRow_setCell_eq rowAt_setCell_same rowAt_setCell_other isRow_alloc_eq rowAt_alloc rowAt_new rowAt_new' isRow_setRow_eq rowAt_setRow_same rowAt_setRow_other isRow_drew rowAt_drew size_setRow_ Lb_size Lb_at blk_ptr aggOf_agg below_alloc_e below_setCell_e below_setRow_e below_refl_e below_drew_r aside2_alloc_e aside2_setCell_e aside2_setRow_e aside2_drew_e aside2_refl_e aside2_drewN_e isRow_drewN rowAt_drewN below_drewN_e le_add_r offv_ptr one_lad zero_lad allOne_nil allOne_cons Value.oneCell' addr_at FA_size one_FA RV_size RV_get70 RV_get71 RV_at70 RV_at71 RV_at5 RV_low RV_set71 RV_ext RV_spl cell_setRow_other
attribute [local go_sem ↓] storeI storeC storeE storeLm
attribute [local go_sem] eq2i eq2b eq2u
set_option maxRecDepth 100000 in
set_option maxHeartbeats 4000000 in
theorem rload_big (g bl : Nat) (R : Array Value) (hR : R.size = 70) (n : Nat) (lost : Int) (A : Option Addr) (c : Nat) (ls xs : List S54) (w : World) (hr : isRow w g) (hr' : rowAt w g = (RV R (.slice (some ⟨bl, 0, none⟩) n n) (.int .i64 lost))) (hl : isRow w bl) (hl' : rowAt w bl = FA xs) (hne : ¬ g = bl) (hne' : ¬ bl = g) (hlt : n < ls.length) :
    Calls Try.prog 62 #[.pointer (some ⟨g, 0, none⟩), .slice A ls.length c] w fun e w' => e = .returned (.int .i64 1) ∧ Row w' g (RV R (.slice (some ⟨bl, 0, none⟩) n n) (.int .i64 lost)) ∧ Row w' bl (FA xs) ∧ Aside2 g bl w w' := by
  have _u : True := by have _ := hne; have _ := hne'; trivial
  clear _u
  have hX : Aside2 g bl w w := .of_below (Below.refl _ _)
  have lr := hr.lt
  have ll := hl.lt
  have hlt1 : (n : Int) < (ls.length : Int) := by omega
  have hB_0 : Below w.heap.size w w := Below.refl _ _
  go_enter Try.func62, Try.ntmps62
  go_wp2
  go_ret
  exact ⟨rfl, ⟨by go_simp, by go_simp⟩, ⟨by go_simp, by go_simp⟩, by go_simp⟩
set_option maxRecDepth 100000 in
set_option maxHeartbeats 4000000 in
theorem rload_bad (g bl : Nat) (R : Array Value) (hR : R.size = 70) (n : Nat) (lost : Int) (A : Option Addr) (c : Nat) (ls xs : List S54) (w : World) (hr : isRow w g) (hr' : rowAt w g = (RV R (.slice (some ⟨bl, 0, none⟩) n n) (.int .i64 lost))) (hl : isRow w bl) (hl' : rowAt w bl = FA xs) (hne : ¬ g = bl) (hne' : ¬ bl = g) (hlt : ¬ n < ls.length) (HC : Hid (Kd.C k54 w A ls.length ls)) (HRT : Hid (∀ W : World, Kd.C k54 W A ls.length ls → Calls Try.prog 15 #[.slice A ls.length c] W fun e w' => e = .returned (.int .i64 200) ∧ Below W.heap.size W w')) :
    Calls Try.prog 62 #[.pointer (some ⟨g, 0, none⟩), .slice A ls.length c] w fun e w' => e = .returned (.int .i64 200) ∧ Row w' g (RV R (.slice (some ⟨bl, 0, none⟩) n n) (.int .i64 lost)) ∧ Row w' bl (FA xs) ∧ Aside2 g bl w w' := by
  have _u : True := by have _ := hne; have _ := hne'; trivial
  clear _u
  have hX : Aside2 g bl w w := .of_below (Below.refl _ _)
  have lr := hr.lt
  have ll := hl.lt
  have hlt1 : ¬ (n : Int) < (ls.length : Int) := by omega
  have hB_0 : Below w.heap.size w w := Below.refl _ _
  go_enter Try.func62, Try.ntmps62
  go_wp2_with fail
  refine (HRT.out _ HC.out).mono ?_
  rintro e v1 ⟨rfl, hb1⟩
  obtain ⟨V_1, V_1'⟩ : Row v1 g (RV R (.slice (some ⟨bl, 0, none⟩) n n) (.int .i64 lost)) := Row.step (by go_simp) (by go_simp) hb1
  obtain ⟨L_1, L_1'⟩ : Row v1 bl (FA xs) := Row.step (by go_simp) (by go_simp) hb1
  have hB_1 : Aside2 g bl w v1 := Aside2.low (by go_simp) hb1
  clear hr hr' hl hl' hX hb1
  go_wp2
  go_ret
  exact ⟨rfl, ⟨by go_simp, by go_simp⟩, ⟨by go_simp, by go_simp⟩, by go_simp⟩
set_option maxRecDepth 100000 in
set_option maxHeartbeats 4000000 in
theorem rload_ok (g bl : Nat) (R : Array Value) (hR : R.size = 70) (n : Nat) (lost : Int) (A : Option Addr) (c : Nat) (ls xs : List S54) (w : World) (hr : isRow w g) (hr' : rowAt w g = (RV R (.slice (some ⟨bl, 0, none⟩) n n) (.int .i64 lost))) (hl : isRow w bl) (hl' : rowAt w bl = FA xs) (hne : ¬ g = bl) (hne' : ¬ bl = g) (hlt : ¬ n < ls.length) (HC : Hid (Kd.C k54 w A ls.length ls)) (HRT : Hid (∀ W : World, Kd.C k54 W A ls.length ls → Calls Try.prog 15 #[.slice A ls.length c] W fun e w' => e = .returned (.int .i64 0) ∧ Below W.heap.size W w')) (HN : Hid (xs.length = n)) (hn16 : n ≤ 16) (hA : ∀ ad, A = some ad → 0 < ls.length → ad.block < w.heap.size ∧ ad.block ≠ bl ∧ ad.block ≠ g) :
    Calls Try.prog 62 #[.pointer (some ⟨g, 0, none⟩), .slice A ls.length c] w fun e w' => e = .returned (.int .i64 0) ∧ Row w' g (RV R (.slice (some ⟨bl, 0, none⟩) n n) (.int .i64 lost)) ∧ Row w' bl (FA (tgt ls n)) ∧ Aside2 g bl w w' := by
  have _u : True := by have _ := hne; have _ := hne'; trivial
  clear _u
  have hX : Aside2 g bl w w := .of_below (Below.refl _ _)
  have lr := hr.lt
  have ll := hl.lt
  have hlt1 : ¬ (n : Int) < (ls.length : Int) := by omega
  have hB_0 : Below w.heap.size w w := Below.refl _ _
  go_enter Try.func62, Try.ntmps62
  go_wp2_with fail
  refine (HRT.out _ HC.out).mono ?_
  rintro e v1 ⟨rfl, hb1⟩
  obtain ⟨V_1, V_1'⟩ : Row v1 g (RV R (.slice (some ⟨bl, 0, none⟩) n n) (.int .i64 lost)) := Row.step (by go_simp) (by go_simp) hb1
  obtain ⟨L_1, L_1'⟩ : Row v1 bl (FA xs) := Row.step (by go_simp) (by go_simp) hb1
  have hB_1 : Aside2 g bl w v1 := Aside2.low (by go_simp) hb1
  clear hr hr' hl hl' hX hb1
  go_wp2_with fail
  go_loopw [6] (fun i wr => ∃ k : Nat, k ≤ n ∧ i = .int .i64 k ∧ Row wr g (RV R (.slice (some ⟨bl, 0, none⟩) n n) (.int .i64 lost)) ∧ Row wr bl (FA (mixL ls xs k)) ∧ Aside2 g bl w wr) (fun i _ => n - (intOf i).toNat)
  case atStart => exact ⟨0, by omega, rfl, ⟨V_1, V_1'⟩, ⟨L_1, by rw [L_1']; unfold mixL; simp⟩, hB_1⟩
  case round =>
    clear V_1 V_1' L_1 L_1' hB_1
    obtain ⟨k, hk, rfl, ⟨V2, V2'⟩, ⟨L2, L2'⟩, hB⟩ := hrel
    by_cases hkn : k < n
    · have k1 : (0 : Int) ≤ (k : Int) := by omega
      have k2 : (k : Int) < (n : Int) := by omega
      have hlx : ls.length ≤ xs.length := by rw [HN.out]; omega
      have hml := mix_length ls xs hlx k (by rw [HN.out]; omega)
      rw [HN.out] at hml
      have hset := mix_set ls xs hlx k (by rw [HN.out]; omega)
      generalize hC1 : FA (mixL ls xs k) = C1 at *
      have hfit1 : k * 7 + 7 ≤ C1.size := by rw [← hC1, FA_size, hml]; omega
      have e2 : spl C1 (k * 7) (enc z54) = FA ((mixL ls xs k).set k z54) := by rw [← hC1]; exact FA_spl _ _ _ (by omega)
      by_cases hkl : k < ls.length
      · have hkl1 : (k : Int) < (ls.length : Int) := by omega
        have hset2 : (mixL ls xs (k + 1)) = ((mixL ls xs k).set k z54).set k (rd_T54 ls k) := by rw [← hset, tgt_lo ls _ k hkl, List.set_set]
        obtain ⟨hab0, hab1, hab2⟩ : (∀ ad, A = some ad → ad.block < w.heap.size ∧ ad.block ≠ bl ∧ ad.block ≠ g) ∧ True ∧ True := ⟨fun ad e => hA ad e (by omega), trivial, trivial⟩
        obtain ⟨ad, rfl, c0, c1, c2, c3, c4, c5, c6⟩ := at_T54 (C_far HC.out (fun ad e _ => hB.block _ (hab0 ad e).1 (hab0 ad e).2.2 (hab0 ad e).2.1)) (k : Int) (by omega) (by omega)
        simp only [Int.toNat_natCast] at c0 c1 c2 c3 c4 c5 c6
        have hbl : ¬ (ad.add (k * 7)).block = bl := by
          have : (ad.add (k * 7)).block = ad.block := by unfold Addr.add; split <;> rfl
          rw [this]; exact (hab0 ad rfl).2.1
        generalize hC2 : FA ((mixL ls xs k).set k z54) = C2 at *
        have hfit2 : k * 7 + 7 ≤ C2.size := by rw [← hC2, FA_size, List.length_set, hml]; omega
        have e3 : spl C2 (k * 7) (enc (rd_T54 ls k)) = FA (mixL ls xs (k + 1)) := by rw [← hC2, hset2]; exact FA_spl _ _ _ (by rw [List.length_set]; omega)
        generalize hC3 : FA (mixL ls xs (k + 1)) = C3 at *
        unfold enc at e2 e3
        have h0 : z54 = ⟨0, 0, 0, 0, false, 0, false⟩ := rfl
        rw [h0] at e2
        simp only at e2
        have HC3 := Lib.hid hC3
        clear hml hset hC1 hset2 hC2 hC3 hab0 hab1 hab2 hA h0 hlx
        go_wp2_with fail
        go_region
        all_goals
          go_wp2
          go_roundw
          case rel => exact ⟨k + 1, by omega, by go_num, ⟨by go_simp, by go_simp⟩, ⟨by go_simp, by rw [HC3.out]; go_simp⟩, by go_simp⟩
          case measure => simp [intOf]; omega
      · have hkl1 : ¬ (k : Int) < (ls.length : Int) := by omega
        have hset2 : (mixL ls xs (k + 1)) = ((mixL ls xs k).set k z54) := by rw [← hset, tgt_hi ls _ k hkl]
        rw [← hset2] at e2
        generalize hC3 : FA (mixL ls xs (k + 1)) = C3 at *
        unfold enc at e2
        have h0 : z54 = ⟨0, 0, 0, 0, false, 0, false⟩ := rfl
        rw [h0] at e2
        simp only at e2
        have HC3 := Lib.hid hC3
        clear hml hset hC1 hset2 hC3 hA h0 hlx
        go_wp2
        go_roundw
        case rel => exact ⟨k + 1, by omega, by go_num, ⟨by go_simp, by go_simp⟩, ⟨by go_simp, by rw [HC3.out]; go_simp⟩, by go_simp⟩
        case measure => simp [intOf]; omega
    · obtain rfl : k = n := by omega
      go_wp2
      go_ret
      exact ⟨rfl, ⟨V2, V2'⟩, ⟨L2, by rw [L2']; unfold mixL; rw [HN.out, List.take_of_length_le (by rw [tgt_length ls _ (by omega)]; omega), List.drop_of_length_le (by rw [HN.out]; omega), List.append_nil]⟩, hB⟩
end Go.Proofs.Ytkbaghblchlcnaa.Lr
namespace Go.Proofs.Ytkbaghblchlcnaa.Lr
open Go.RowKit Go.Shelf Go.Proofs.YtkbaghblchlcnaaW.PrintWords Go.Proofs.Ytkbaghblchlcnaa.IAll
theorem spl_full {cur cs : Array Value} (h : cur.size = cs.size) : spl cur 0 cs = cs := by
  unfold spl
  rw [List.take_zero, List.nil_append, List.drop_of_length_le (by simp; omega), List.append_nil]
/-- those that are not free -/
def nf (xs : List S54) : List S54 := xs.filter fun x => x.f0 != 0
theorem nf_take (xs : List S54) (k : Nat) (hk : k < xs.length) : nf (xs.take (k + 1)) = nf (xs.take k) ++ (if (rd_T54 xs k).f0 != 0 then [rd_T54 xs k] else []) := by
  have e : rd_T54 xs k = xs[k] := by unfold rd_T54; simp [hk]
  unfold nf
  rw [List.take_succ_eq_append_getElem hk, List.filter_append, e]
  cases h : (xs[k].f0 != 0) <;> simp [h]
theorem nf_length (xs : List S54) : (nf xs).length ≤ xs.length := List.length_filter_le _ _
/-- behind k rounds that free -/
def frd (xs : List S54) (k : Nat) : List S54 := List.replicate k z54 ++ xs.drop k
theorem frd_length (xs : List S54) (k : Nat) (hk : k ≤ xs.length) : (frd xs k).length = xs.length := by unfold frd; simp; omega
theorem frd_at (xs : List S54) (k : Nat) : rd_T54 (frd xs k) k = rd_T54 xs k := by
  unfold rd_T54 frd
  simp only [Int.toNat_natCast, List.getD_eq_getElem?_getD]
  rw [List.getElem?_append_right (by simp), List.length_replicate, Nat.sub_self, List.getElem?_drop, Nat.add_zero]
theorem frd_set (xs : List S54) (k : Nat) (hk : k < xs.length) : (frd xs k).set k z54 = frd xs (k + 1) := by
  unfold frd
  rw [List.set_append_right _ _ (by simp), List.length_replicate, Nat.sub_self, List.drop_eq_getElem_cons hk, List.set_cons_zero, List.replicate_succ', List.append_assoc]
  rfl
theorem cells_new (w : World) (cs : Array Value) (t : TypeId) : ∀ j u, cs.toList[j]? = some u → (w.alloc (.cells cs t)).cell? ((⟨w.heap.size, 0, none⟩ : Addr).add j) = some u := by
  intro j u h
  rw [addr_at, cell_row isRow_new, rowAt_new]
  simpa using h
theorem infoL3 : (Try.prog.info? 54).map (fun i => (i.zero, i.size, i.bytes)) = some (some (.agg (enc z54)), 7, 56) := by kernel_rfl
theorem aside2_low' {g h : Nat} {w W w2 : World} (a : Aside2 g h w W) (b : Below w.heap.size W w2) : Aside2 g h w w2 :=
  ⟨b.os.trans a.os, b.tape.trans a.tape, b.output.trans a.output, Nat.le_trans a.size b.size, fun k hk h1 h2 => (b.block k hk).trans (a.block k hk h1 h2)⟩
theorem own_row {W : World} {n₀ g : Nat} {e : TypeId} {size : Nat} {v : Value} {k : Nat} {xs : List Value} {cs : Array Value} (h : W.ownsRow n₀ e size v k xs) (hg : g < n₀) : (W.setRow g cs).ownsRow n₀ e size v k xs :=
  own_move h (fun j hj => setRow_other W g j cs (by have := own_base h j hj; omega))
theorem own_set {W : World} {n₀ g : Nat} {e : TypeId} {size : Nat} {v : Value} {k : Nat} {xs : List Value} {cs : Array Value} (h : W.ownsRow n₀ e size v k xs) (hg : ∀ j, v.ownBlock = some j → j ≠ g) : (W.setRow g cs).ownsRow n₀ e size v k xs :=
  own_move h (fun j hj => setRow_other W g j cs (hg j hj))
theorem cells_new' (w : World) (B : Nat) (cs : Array Value) (t : TypeId) (hB : B = w.heap.size) : ∀ j u, cs.toList[j]? = some u → (w.alloc (.cells cs t)).cell? ((⟨B, 0, none⟩ : Addr).add j) = some u := by subst hB; exact cells_new w cs t
theorem fl_snoc (ys : List S54) (x : S54) : fl (ys ++ [x]) = fl ys ++ (enc x).toList := by rw [fl_append]; simp [fl]
attribute [local go_sem] Oper.semAt_some cell_row frozen_row isRow_setCell_eq rowAt_setCell_same rowAt_setCell_other isRow_alloc_eq rowAt_alloc rowAt_new rowAt_new' isRow_setRow_eq rowAt_setRow_same rowAt_setRow_other isRow_drew rowAt_drew size_setRow_ Lb_size Lb_at blk_ptr aggOf_agg below_alloc_e below_setCell_e below_setRow_e below_refl_e below_drew_r aside2_alloc_e aside2_setCell_e aside2_setRow_e aside2_drew_e aside2_refl_e aside2_drewN_e isRow_drewN rowAt_drewN below_drewN_e le_add_r offv_ptr one_lad zero_lad allOne_nil allOne_cons Value.oneCell' addr_at FA_size one_FA RV_size RV_get70 RV_get71 RV_at70 RV_at71 RV_at5 RV_low RV_set71 RV_ext RV_spl cell_setRow_other spl_full
attribute [local go_sem ↓] storeI storeC storeE run_clear_row storeLm
attribute [local go_sem] eq2i eq2b eq2u
set_option maxRecDepth 100000 in
set_option maxHeartbeats 4000000 in
theorem runload_c (g bl : Nat) (R : Array Value) (hR : R.size = 70) (n : Nat) (lost : Int) (xs : List S54) (w : World) (hr : isRow w g) (hr' : rowAt w g = (RV R (.slice (some ⟨bl, 0, none⟩) n n) (.int .i64 lost))) (hl : isRow w bl) (hl' : rowAt w bl = FA xs) (hne : ¬ g = bl) (hne' : ¬ bl = g) (HN : Hid (xs.length = n)) (hn16 : n ≤ 16) :
    Calls Try.prog 63 #[.pointer (some ⟨g, 0, none⟩)] w fun e w' => ∃ v, e = .returned v ∧ w'.ownsRow w.heap.size 54 7 v (nf xs).length (fl (nf xs)) ∧ Row w' g (RV R (.slice (some ⟨bl, 0, none⟩) n n) (.int .i64 lost)) ∧ Row w' bl (FA (List.replicate n z54)) ∧ Aside2 g bl w w' := by
  have _u : True := by have _ := hne; have _ := hne'; trivial
  clear _u
  obtain ⟨i0, hi, hz0, hz1, hz2⟩ := info_parts infoL3
  have hX : Aside2 g bl w w := .of_below (Below.refl _ _)
  have lr := hr.lt
  have ll := hl.lt
  have hnx := HN.out
  go_enter Try.func63, Try.ntmps63
  go_wp2_with fail
  go_loopw [3, 4] (fun v i wr => ∃ k : Nat, k ≤ n ∧ i = .int .i64 k ∧ wr.ownsRow w.heap.size 54 7 v (nf (xs.take k)).length (fl (nf (xs.take k))) ∧ Row wr g (RV R (.slice (some ⟨bl, 0, none⟩) n n) (.int .i64 lost)) ∧ Row wr bl (FA (frd xs k)) ∧ Aside2 g bl w wr) (fun _ i _ => n - (intOf i).toNat)
  case atStart => exact ⟨0, by omega, rfl, World.ownsRow_nil _ _ _ _, ⟨hr, hr'⟩, ⟨hl, by rw [hl']; unfold frd; simp⟩, hX⟩
  case round =>
    clear hr hr' hl hl' hX
    obtain ⟨k, hk, rfl, hrow, ⟨V2, V2'⟩, ⟨L2, L2'⟩, hB⟩ := hrel
    by_cases hkn : k < n
    · have k1 : (0 : Int) ≤ (k : Int) := by omega
      have k2 : (k : Int) < (n : Int) := by omega
      have hfl := frd_length xs k (by omega)
      obtain ⟨c0, c1, c2, c3, c4, c5, c6⟩ := FA_gets (frd xs k) k (by omega)
      rw [frd_at xs k] at c0 c1 c2 c3 c4 c5 c6
      have hset := frd_set xs k (by omega)
      have hnt := nf_take xs k (by omega)
      have hnl := nf_length (xs.take k)
      rw [List.length_take] at hnl
      have e2 : spl (FA (frd xs k)) (k * 7) (enc z54) = FA (frd xs (k + 1)) := by rw [← hset]; exact FA_spl _ _ _ (by omega)
      have hfit1 : k * 7 + 7 ≤ (FA (frd xs k)).size := by rw [FA_size, hfl]; omega
      have hsz : w.heap.size ≤ wr.heap.size := hB.size
      generalize hC1 : FA (frd xs k) = C1 at *
      generalize hC3 : FA (frd xs (k + 1)) = C3 at *
      generalize hY : nf (xs.take k) = ys at *
      generalize hE : rd_T54 xs k = el at *
      have hfe : fl (ys ++ [el]) = fl ys ++ (enc el).toList := fl_snoc ys el
      obtain ⟨s0, s1, s2, s3, s4, s5, s6⟩ := el
      simp only at c0 c1 c2 c3 c4 c5 c6 hnt
      unfold enc at e2
      have h0 : z54 = ⟨0, 0, 0, 0, false, 0, false⟩ := rfl
      rw [h0] at e2
      simp only at e2
      have HC3 := Lib.hid hC3
      have HFE := Lib.hid hfe
      by_cases hst : (s0 != 0) = true
      · rw [if_pos hst] at hnt
        have HNT := Lib.hid hnt
        clear hset hC1 hC3 hY hE hnt h0 hfe hfl hnx
        go_wp2_with (at_builtin; refine wpList_append_own _ rfl _ _ 22 rfl w.heap.size 54 i0 (.agg (enc z54)) 7 56 Try.underlying22 hi hz0 hz1 hz2 rfl (by decide) _ _ _ rfl (hrow.alloc _) ⟨wr.heap.size, 0, none⟩ 1 1 [.int .i64 s0, .int .i64 s1, .int .i64 s2, .int .i64 s3, .bool s4, .int .i64 s5, .bool s6] rfl rfl (cells_new _ #[.int .i64 s0, .int .i64 s1, .int .i64 s2, .int .i64 s3, .bool s4, .int .i64 s5, .bool s6] _) (by simp [Value.oneCell']) (by unfold maxLen; omega) (by omega) (by simp; omega) ?_; intro v' w1 hown' hgrow _; have hBo := own_below hrow hsz hgrow; obtain ⟨V3, V3'⟩ : Row w1 g (RV R (.slice (some ⟨bl, 0, none⟩) n n) (.int .i64 lost)) := Row.below ⟨V2, V2'⟩ hBo lr; obtain ⟨L3, L3'⟩ : Row w1 bl C1 := Row.below ⟨L2, L2'⟩ hBo ll)
        have o2 := own_row (g := bl) (cs := C3) hown' ll
        go_roundw
        case rel => exact ⟨k + 1, by omega, by go_num, by rw [HNT.out, HFE.out]; simpa [enc] using o2, ⟨by go_simp, by go_simp⟩, ⟨by go_simp, by rw [HC3.out]; go_simp⟩, by have h5 := aside2_low' hB hBo; go_simp⟩
        case measure => simp [intOf]; omega
      · rw [if_neg hst, List.append_nil] at hnt
        have hst' : (s0 != 0) = false := by simpa using hst
        have HNT := Lib.hid hnt
        clear hset hC1 hC3 hY hE hnt h0 hfe hst hfl hnx
        go_wp2
        have o2 := own_row (g := bl) (cs := C3) hrow ll
        go_roundw
        case rel => exact ⟨k + 1, by omega, by go_num, by rw [HNT.out]; exact o2, ⟨by go_simp, by go_simp⟩, ⟨by go_simp, by rw [HC3.out]; go_simp⟩, by go_simp⟩
        case measure => simp [intOf]; omega
    · obtain rfl : k = n := by omega
      rw [List.take_of_length_le (by omega)] at hrow
      have hfin : frd xs k = List.replicate k z54 := by unfold frd; rw [List.drop_of_length_le (by omega), List.append_nil]
      rw [hfin] at L2'
      have HR := Lib.hid hrow
      clear hrow hfin hnx
      go_wp2
      go_ret
      exact ⟨_, rfl, HR.out, ⟨V2, V2'⟩, ⟨L2, L2'⟩, hB⟩
set_option maxRecDepth 100000 in
set_option maxHeartbeats 4000000 in
theorem unload_c (g bl : Nat) (m p0 p1 : Int) (o0 o1 sp : Bool) (a b : Int) (n : Nat) (lost : Int) (xs : List S54) (hn : 0 < n) (w : World) (hr : isRow w g) (hr' : rowAt w g = #[.int .i64 m, .int .i64 p0, .int .i64 p1, .bool o0, .bool o1, .bool sp, .int .u32 a, .int .u32 b, .slice (some ⟨bl, 0, none⟩) n n, .int .i64 lost]) (hl : isRow w bl) (hl' : rowAt w bl = FA xs) (hne : ¬ g = bl) (hne' : ¬ bl = g) (HN : Hid (xs.length = n)) (hn16 : n ≤ 16) :
    Calls Try.prog 27 #[.pointer (some ⟨g, 0, none⟩)] w fun e w' => ∃ v, e = .returned v ∧ w'.ownsRow w.heap.size 54 7 v (nf xs).length (fl (nf xs)) ∧ Row w' g #[.int .i64 m, .int .i64 p0, .int .i64 p1, .bool o0, .bool o1, .bool sp, .int .u32 a, .int .u32 b, .slice (some ⟨bl, 0, none⟩) n n, .int .i64 lost] ∧ Row w' bl (FA (List.replicate n z54)) ∧ Aside2 g bl w w' := by
  have _u : True := by have _ := hne; have _ := hne'; trivial
  clear _u
  obtain ⟨i0, hi, hz0, hz1, hz2⟩ := info_parts infoL3
  have hX : Aside2 g bl w w := .of_below (Below.refl _ _)
  have lr := hr.lt
  have ll := hl.lt
  have hnx := HN.out
  go_enter Try.func27, Try.ntmps27
  go_wp2_with fail
  go_loopw [3, 5, 11] (fun v _ i wr => ∃ k : Nat, k ≤ n ∧ i = .int .i64 k ∧ wr.ownsRow w.heap.size 54 7 v (nf (xs.take k)).length (fl (nf (xs.take k))) ∧ Row wr g #[.int .i64 m, .int .i64 p0, .int .i64 p1, .bool o0, .bool o1, .bool sp, .int .u32 a, .int .u32 b, .slice (some ⟨bl, 0, none⟩) n n, .int .i64 lost] ∧ Row wr bl (FA xs) ∧ Aside2 g bl w wr) (fun _ _ i _ => n - (intOf i).toNat)
  case atStart => exact ⟨0, by omega, rfl, World.ownsRow_nil _ _ _ _, ⟨hr, hr'⟩, ⟨hl, hl'⟩, hX⟩
  case round =>
    clear hr hr' hl hl' hX
    obtain ⟨k, hk, rfl, hrow, ⟨V2, V2'⟩, ⟨L2, L2'⟩, hB⟩ := hrel
    have hsz : w.heap.size ≤ wr.heap.size := hB.size
    by_cases hkn : k < n
    · have k1 : (0 : Int) ≤ (k : Int) := by omega
      have k2 : (k : Int) < (n : Int) := by omega
      obtain ⟨c0, c1, c2, c3, c4, c5, c6⟩ := FA_gets xs k (by omega)
      have hnt := nf_take xs k (by omega)
      have hnl := nf_length (xs.take k)
      rw [List.length_take] at hnl
      generalize hC1 : FA xs = C1 at *
      generalize hY : nf (xs.take k) = ys at *
      generalize hE : rd_T54 xs k = el at *
      have hfe : fl (ys ++ [el]) = fl ys ++ (enc el).toList := fl_snoc ys el
      obtain ⟨s0, s1, s2, s3, s4, s5, s6⟩ := el
      simp only at c0 c1 c2 c3 c4 c5 c6 hnt
      have hb1 : ¬ g = wr.heap.size := by omega
      have hb2 : ¬ bl = wr.heap.size := by omega
      have hb3 : ¬ wr.heap.size = g := by omega
      have hb4 : ¬ wr.heap.size = bl := by omega
      have HFE := Lib.hid hfe
      by_cases hst : (s0 != 0) = true
      · rw [if_pos hst] at hnt
        have HNT := Lib.hid hnt
        clear hC1 hY hE hnt hfe hnx
        go_wp2_with (at_builtin; refine wpList_append_own _ rfl _ _ 22 rfl w.heap.size 54 i0 (.agg (enc z54)) 7 56 Try.underlying22 hi hz0 hz1 hz2 rfl (by decide) _ _ _ rfl ((own_set (hrow.alloc _) (fun j hj e => by have := own_lt hrow j hj; omega)).alloc _) ⟨wr.heap.size + 1, 0, none⟩ 1 1 [.int .i64 s0, .int .i64 s1, .int .i64 s2, .int .i64 s3, .bool s4, .int .i64 s5, .bool s6] rfl rfl (cells_new' _ _ #[.int .i64 s0, .int .i64 s1, .int .i64 s2, .int .i64 s3, .bool s4, .int .i64 s5, .bool s6] _ (by simp)) (by simp [Value.oneCell']) (by unfold maxLen; omega) (by omega) (by simp; omega) ?_; intro v' w1 hown' hgrow _; have hBo := own_below (own_set (hrow.alloc _) (fun j hj e => by have := own_lt hrow j hj; omega)) (by simp; omega) hgrow; obtain ⟨V3, V3'⟩ : Row w1 g #[.int .i64 m, .int .i64 p0, .int .i64 p1, .bool o0, .bool o1, .bool sp, .int .u32 a, .int .u32 b, .slice (some ⟨bl, 0, none⟩) n n, .int .i64 lost] := Row.below ⟨by go_simp, by go_simp⟩ hBo lr; obtain ⟨L3, L3'⟩ : Row w1 bl C1 := Row.below ⟨by go_simp, by go_simp⟩ hBo ll; have hX3 : Aside2 g bl w w1 := aside2_low' (by go_simp) hBo)
        go_roundw
        case rel => exact ⟨k + 1, by omega, by go_num, by rw [HNT.out, HFE.out]; simpa [enc] using hown', ⟨by go_simp, by go_simp⟩, ⟨by go_simp, by go_simp⟩, hX3⟩
        case measure => simp [intOf]; omega
      · rw [if_neg hst, List.append_nil] at hnt
        have hst' : (s0 != 0) = false := by simpa using hst
        have HNT := Lib.hid hnt
        clear hC1 hY hE hnt hfe hst hnx
        go_wp2
        go_roundw
        case rel => exact ⟨k + 1, by omega, by go_num, by rw [HNT.out]; exact own_set (hrow.alloc _) (fun j hj e => by have := own_lt hrow j hj; omega), ⟨by go_simp, by go_simp⟩, ⟨by go_simp, by go_simp⟩, by go_simp⟩
        case measure => simp [intOf]; omega
    · obtain rfl : k = n := by omega
      rw [List.take_of_length_le (by omega)] at hrow
      have HR := Lib.hid (own_row (g := bl) (cs := FA (List.replicate k z54)) hrow ll)
      clear hrow
      have hC7 : (FA xs).size = k * 7 := by rw [FA_size, hnx]
      clear hnx
      go_wp2
      go_ret
      exact ⟨_, rfl, HR.out, ⟨by go_simp, by go_simp⟩, ⟨by go_simp, by go_simp⟩, by go_simp⟩
end Go.Proofs.Ytkbaghblchlcnaa.Lr
namespace Go.Proofs.Ytkbaghblchlcnaa.Lr
open Go.RowKit Go.Shelf Go.Proofs.YtkbaghblchlcnaaW.PrintWords Go.Proofs.Ytkbaghblchlcnaa.IAll
structure VS where
  m : Int
  p0 : Int
  p1 : Int
  o0 : Bool
  o1 : Bool
  sp : Bool
  a : Int
  b : Int
  xs : List S54
  lost : Int
def vrow (n bl : Nat) (s : VS) : Array Value := #[.int .i64 s.m, .int .i64 s.p0, .int .i64 s.p1, .bool s.o0, .bool s.o1, .bool s.sp, .int .u32 s.a, .int .u32 s.b, .slice (some ⟨bl, 0, none⟩) n n, .int .i64 s.lost]
def rrow (n bl : Nat) (s : VS) : Array Value := RV (RC s.m s.p0 s.p1 s.o0 s.o1 s.sp (rb s.a s.b)) (.slice (some ⟨bl, 0, none⟩) n n) (.int .i64 s.lost)
structure Tell where
  n : Int
  ok : Bool
  mm : Int
  is : Bool
def ackS (s : VS) (gp : Int) : VS := { s with a := ackA s.m s.p0 s.p1 s.o0 s.o1 s.a s.b s.xs gp, b := ackB s.m s.p0 s.p1 s.o0 s.o1 s.a s.b s.xs gp, xs := ackXs s.m s.p0 s.p1 s.o0 s.o1 s.a s.b s.xs gp }
def ackN (s : VS) (gp : Int) : Int := ackId s.m s.p0 s.p1 s.o0 s.o1 s.a s.b s.xs gp
def showN (s : VS) (gp : Int) : Int := showsP s.o0 s.o1 (best s.xs).id (best s.xs).gr (best s.xs).is gp
def eoiS (s : VS) (gp id : Int) : VS := { s with a := eoiA s.a s.b gp id, b := eoiB s.a s.b gp id, xs := gXs id s.xs (eoiGo s.sp s.a s.b gp id), lost := gLost id s.xs (eoiGo s.sp s.a s.b gp id) s.lost }
def dirS (s : VS) (id : Int) : VS := { s with xs := gXs id s.xs (dirGo s.sp id), lost := gLost id s.xs (dirGo s.sp id) s.lost }
def writeS (s : VS) (r x : Int) : VS := { s with m := wM r x s.m, p0 := wP0 r x s.p0, p1 := wP1 r x s.p1, o0 := wO0 r x s.o0, o1 := wO1 r x s.o1, sp := wSp r x s.sp }
def doV (s : VS) (r : Int) (wr : Bool) (x : Int) : VS × Tell :=
  if wr = false then
    if r = 1 then (ackS s 0, ⟨IntKind.u64.wrap (ackN s 0), false, -1, true⟩) else
    if r = 2 then (ackS s 1, ⟨IntKind.u64.wrap (ackN s 1), false, -1, true⟩) else
    if r = 13 then (s, ⟨IntKind.u64.wrap (showN s 0), false, -1, true⟩) else
    if r = 14 then (s, ⟨IntKind.u64.wrap (showN s 1), false, -1, true⟩) else
    (s, ⟨rdN r s.m s.p0 s.p1 s.o0 s.o1 s.sp s.a s.b, false, -1, rdOk r⟩)
  else
    if r = 3 then (eoiS s 0 (x % 16777216), ⟨0, gOk (x % 16777216) s.xs (eoiGo s.sp s.a s.b 0 (x % 16777216)), gM (x % 16777216) s.xs (eoiGo s.sp s.a s.b 0 (x % 16777216)), true⟩) else
    if r = 4 then (eoiS s 1 (x % 16777216), ⟨0, gOk (x % 16777216) s.xs (eoiGo s.sp s.a s.b 1 (x % 16777216)), gM (x % 16777216) s.xs (eoiGo s.sp s.a s.b 1 (x % 16777216)), true⟩) else
    if r = 5 then (dirS s (x % 16777216), ⟨0, gOk (x % 16777216) s.xs (dirGo s.sp (x % 16777216)), gM (x % 16777216) s.xs (dirGo s.sp (x % 16777216)), true⟩) else
    (writeS s r x, ⟨0, false, -1, wOk r⟩)
/-- what is asked of a state -/
structure SOk (n : Nat) (s : VS) : Prop where
  len : s.xs.length = n
  n16 : n ≤ 16
  n0 : 0 < n
  st : stOk s.xs
  lo : 0 ≤ s.lost
  hi : s.lost ≤ 4611686018427387904
theorem shows_v (s : VS) (gp : Int) (W : World) : Calls Try.prog 53 #[.agg #[.int .i64 s.m, .int .i64 s.p0, .int .i64 s.p1, .bool s.o0, .bool s.o1, .bool s.sp, .int .u32 s.a, .int .u32 s.b], .agg #[.int .i64 (best s.xs).id, .int .i64 (best s.xs).pr, .int .i64 (best s.xs).gr, .bool (best s.xs).is], .int .i64 gp] W fun e w' => e = .returned (.int .i64 (showN s gp)) ∧ Below W.heap.size W w' :=
  Shows_c s.m s.p0 s.p1 s.o0 s.o1 s.sp s.a s.b (best s.xs).id (best s.xs).pr (best s.xs).gr (best s.xs).is gp W
theorem shows_r (s : VS) (gp : Int) (W : World) : Calls Try.prog 85 #[.agg (RC s.m s.p0 s.p1 s.o0 s.o1 s.sp (rb s.a s.b)), .agg #[.int .i64 (best s.xs).id, .int .i64 (best s.xs).pr, .int .i64 (best s.xs).gr, .bool (best s.xs).is], .int .i64 gp] W fun e w' => e = .returned (.int .i64 (showN s gp)) ∧ Below W.heap.size W w' :=
  rShows_c s.m s.p0 s.p1 s.o0 s.o1 s.sp s.a s.b (best s.xs).id (best s.xs).pr (best s.xs).gr (best s.xs).is gp W
theorem and24 (x : Int) : bits .and .u64 x 16777215 = x % 16777216 := and_low_u x 24 (by decide)
theorem nbeq {r k : Int} (h : ¬ r = k) : (r == k) = false := by simpa using h
section
variable (n g bl : Nat) (s : VS) (h : SOk n s) (hne : ¬ g = bl) (w : World) (hl : isRow w bl) (hl' : rowAt w bl = FA s.xs)
include h hne hl hl'
theorem vdo_c (hr : isRow w g) (hr' : rowAt w g = vrow n bl s) (r : Int) (wr : Bool) (x : Int) :
    Calls Try.prog 28 #[.pointer (some ⟨g, 0, none⟩), .int .i64 r, .bool wr, .int .u64 x] w fun e w' => e = .returned (.tuple #[.int .u64 (doV s r wr x).2.n, .agg #[.bool (doV s r wr x).2.ok, .int .i64 (doV s r wr x).2.mm], .bool (doV s r wr x).2.is]) ∧
      Row w' g (vrow n bl (doV s r wr x).1) ∧ Row w' bl (FA (doV s r wr x).1.xs) ∧ Aside2 g bl w w' := by
  obtain ⟨rfl, h16, h0, hst, hlo, hhi⟩ := h
  have hne' : ¬ bl = g := fun e => hne e.symm
  have hy := and24 x
  have y0 : 0 ≤ x % 16777216 := by omega
  have y1 : x % 16777216 ≤ 16777215 := by omega
  obtain ⟨m, p0, p1, o0, o1, sp, a, b, xs, lost⟩ := s
  unfold doV
  unfold vrow at hr' ⊢
  cases wr with
  | false =>
    simp only [if_true]
    have HA := fun gp : Int => Lib.hid (fun (W : World) q1 q2 q3 q4 => ack_c g bl m p0 p1 o0 o1 sp a b xs h16 lost gp hne W q1 q2 q3 q4)
    have HB := Lib.hid (fun (W : World) (q1 : isRow W g) (q2 : rowAt W g = #[.int .i64 m, .int .i64 p0, .int .i64 p1, .bool o0, .bool o1, .bool sp, .int .u32 a, .int .u32 b, .slice (some ⟨bl, 0, none⟩) xs.length xs.length, .int .i64 lost]) (q3 : isRow W bl) (q4 : rowAt W bl = FA xs) =>
      vBest_w g bl m p0 p1 o0 o1 sp a b xs.length (FA xs) lost (best xs).id (best xs).pr (best xs).gr (best xs).is W q1 q2 q3 q4 (Lib.hid (fun (W' : World) (h : isRow W' bl) (h' : rowAt W' bl = FA xs) => vbest h16 h h')))
    by_cases r1 : r = 1
    · subst r1; rw [if_pos rfl]
      exact do_a0 g bl m p0 p1 o0 o1 sp a b xs.length (FA xs) lost _ _ _ _ _ _ _ _ _ _ w hr hr' hl hl' hne hne' x _ hy y0 y1 _ (HA 0)
    by_cases r2 : r = 2
    · subst r2; rw [if_neg (by decide), if_pos rfl]
      exact do_a1 g bl m p0 p1 o0 o1 sp a b xs.length (FA xs) lost _ _ _ _ _ _ _ _ _ _ w hr hr' hl hl' hne hne' x _ hy y0 y1 _ (HA 1)
    by_cases r13 : r = 13
    · subst r13; rw [if_neg (by decide), if_neg (by decide), if_pos rfl]
      exact do_s0 g bl m p0 p1 o0 o1 sp a b xs.length (FA xs) lost w hr hr' hl hl' hne hne' x _ hy y0 y1 _ _ _ _ _ HB (Lib.hid (shows_v ⟨m, p0, p1, o0, o1, sp, a, b, xs, lost⟩ 0))
    by_cases r14 : r = 14
    · subst r14; rw [if_neg (by decide), if_neg (by decide), if_neg (by decide), if_pos rfl]
      exact do_s1 g bl m p0 p1 o0 o1 sp a b xs.length (FA xs) lost w hr hr' hl hl' hne hne' x _ hy y0 y1 _ _ _ _ _ HB (Lib.hid (shows_v ⟨m, p0, p1, o0, o1, sp, a, b, xs, lost⟩ 1))
    rw [if_neg r1, if_neg r2, if_neg r13, if_neg r14]
    exact do_r g bl m p0 p1 o0 o1 sp a b xs.length (FA xs) lost w hr hr' hl hl' hne hne' x _ hy y0 y1 r (nbeq r1) (nbeq r2) (nbeq r13) (nbeq r14) _ _ (Lib.hid (Read_c m p0 p1 o0 o1 sp a b r))
  | true =>
    rw [if_neg (by decide)]
    have HE := fun gp : Int => Lib.hid (fun (W : World) q1 q2 q3 q4 => eoi_c g bl m p0 p1 o0 o1 sp a b xs h16 hst lost gp (x % 16777216) hlo hhi hne W q1 q2 q3 q4)
    have HD := Lib.hid (fun (W : World) q1 q2 q3 q4 => dir_c g bl m p0 p1 o0 o1 sp a b xs h16 hst lost (x % 16777216) hlo hhi hne W q1 q2 q3 q4)
    by_cases r3 : r = 3
    · subst r3; rw [if_pos rfl]
      exact do_e0 g bl m p0 p1 o0 o1 sp a b xs.length (FA xs) lost _ _ _ _ _ _ _ _ _ _ w hr hr' hl hl' hne hne' x _ hy y0 y1 _ _ (HE 0)
    by_cases r4 : r = 4
    · subst r4; rw [if_neg (by decide), if_pos rfl]
      exact do_e1 g bl m p0 p1 o0 o1 sp a b xs.length (FA xs) lost _ _ _ _ _ _ _ _ _ _ w hr hr' hl hl' hne hne' x _ hy y0 y1 _ _ (HE 1)
    by_cases r5 : r = 5
    · subst r5; rw [if_neg (by decide), if_neg (by decide), if_pos rfl]
      exact do_d g bl m p0 p1 o0 o1 sp a b xs.length (FA xs) lost _ _ _ _ _ _ _ _ _ _ w hr hr' hl hl' hne hne' x _ hy y0 y1 _ _ HD
    rw [if_neg r3, if_neg r4, if_neg r5]
    exact do_w g bl m p0 p1 o0 o1 sp a b xs.length (FA xs) lost _ _ _ _ _ _ _ _ w hr hr' hl hl' hne hne' x _ hy y0 y1 r (nbeq r3) (nbeq r4) (nbeq r5) _ (Lib.hid (fun (W : World) q1 q2 => Write_c g m p0 p1 o0 o1 sp a b _ _ r x W q1 q2))
theorem rdo_c (hr : isRow w g) (hr' : rowAt w g = rrow n bl s) (r : Int) (wr : Bool) (x : Int) (x0 : 0 ≤ x) (x1 : x ≤ 18446744073709551615) :
    Calls Try.prog 64 #[.pointer (some ⟨g, 0, none⟩), .int .i64 r, .bool wr, .int .u64 x] w fun e w' => e = .returned (.tuple #[.int .u64 (doV s r wr x).2.n, .bool (doV s r wr x).2.ok, .int .i64 (doV s r wr x).2.mm, .bool (doV s r wr x).2.is]) ∧
      Row w' g (rrow n bl (doV s r wr x).1) ∧ Row w' bl (FA (doV s r wr x).1.xs) ∧ Aside2 g bl w w' := by
  obtain ⟨rfl, h16, h0, hst, hlo, hhi⟩ := h
  have hne' : ¬ bl = g := fun e => hne e.symm
  have y0 : 0 ≤ x % 16777216 := by omega
  have y1 : x % 16777216 ≤ 16777215 := by omega
  obtain ⟨m, p0, p1, o0, o1, sp, a, b, xs, lost⟩ := s
  unfold doV
  unfold rrow at hr' ⊢
  cases wr with
  | false =>
    simp only [if_true]
    have HA := fun gp : Int => Lib.hid (fun (W : World) q1 q2 q3 q4 => rack_c g bl m p0 p1 o0 o1 sp a b xs h16 lost gp hne W q1 q2 q3 q4)
    have HB := Lib.hid (fun (W' : World) (h : isRow W' bl) (h' : rowAt W' bl = FA xs) => rbest h16 h h')
    by_cases r1 : r = 1
    · subst r1; rw [if_pos rfl]
      exact rdo_a0 g bl _ RC_size xs.length (FA xs) lost _ _ _ w hr hr' hl hl' hne hne' x _ x0 rfl y0 y1 _ (HA 0)
    by_cases r2 : r = 2
    · subst r2; rw [if_neg (by decide), if_pos rfl]
      exact rdo_a1 g bl _ RC_size xs.length (FA xs) lost _ _ _ w hr hr' hl hl' hne hne' x _ x0 rfl y0 y1 _ (HA 1)
    by_cases r13 : r = 13
    · subst r13; rw [if_neg (by decide), if_neg (by decide), if_pos rfl]
      exact rdo_s0 g bl _ RC_size xs.length (FA xs) lost w hr hr' hl hl' hne hne' x _ x0 rfl y0 y1 _ _ _ _ _ HB (Lib.hid (shows_r ⟨m, p0, p1, o0, o1, sp, a, b, xs, lost⟩ 0))
    by_cases r14 : r = 14
    · subst r14; rw [if_neg (by decide), if_neg (by decide), if_neg (by decide), if_pos rfl]
      exact rdo_s1 g bl _ RC_size xs.length (FA xs) lost w hr hr' hl hl' hne hne' x _ x0 rfl y0 y1 _ _ _ _ _ HB (Lib.hid (shows_r ⟨m, p0, p1, o0, o1, sp, a, b, xs, lost⟩ 1))
    rw [if_neg r1, if_neg r2, if_neg r13, if_neg r14]
    exact rdo_r g bl _ RC_size xs.length (FA xs) lost w hr hr' hl hl' hne hne' x _ x0 rfl y0 y1 r (nbeq r1) (nbeq r2) (nbeq r13) (nbeq r14) _ _ (Lib.hid (rReadI_c m p0 p1 o0 o1 sp a b r))
  | true =>
    rw [if_neg (by decide)]
    have HE := fun gp : Int => Lib.hid (fun (W : World) q1 q2 q3 q4 => reoi_c g bl m p0 p1 o0 o1 sp a b xs h16 hst lost gp (x % 16777216) hlo hhi hne W q1 q2 q3 q4)
    have HD := Lib.hid (fun (W : World) q1 q2 q3 q4 => rdir_c g bl m p0 p1 o0 o1 sp a b xs h16 hst lost (x % 16777216) hlo hhi hne W q1 q2 q3 q4)
    by_cases r3 : r = 3
    · subst r3; rw [if_pos rfl]
      exact rdo_e0 g bl _ RC_size xs.length (FA xs) lost _ _ _ w hr hr' hl hl' hne hne' x _ x0 rfl y0 y1 _ _ (HE 0)
    by_cases r4 : r = 4
    · subst r4; rw [if_neg (by decide), if_pos rfl]
      exact rdo_e1 g bl _ RC_size xs.length (FA xs) lost _ _ _ w hr hr' hl hl' hne hne' x _ x0 rfl y0 y1 _ _ (HE 1)
    by_cases r5 : r = 5
    · subst r5; rw [if_neg (by decide), if_neg (by decide), if_pos rfl]
      exact rdo_d g bl _ RC_size xs.length (FA xs) lost _ _ _ w hr hr' hl hl' hne hne' x _ x0 rfl y0 y1 _ _ HD
    rw [if_neg r3, if_neg r4, if_neg r5]
    exact rdo_w g bl _ RC_size xs.length (FA xs) lost _ RC_size RC_one w hr hr' hl hl' hne hne' x _ x0 rfl y0 y1 r (nbeq r3) (nbeq r4) (nbeq r5) _ (Lib.hid (fun W => rWriteI_c m p0 p1 o0 o1 sp a b r x x0 x1 W))
end
end Go.Proofs.Ytkbaghblchlcnaa.Lr
namespace Go.Proofs.Ytkbaghblchlcnaa
open Go.RowKit Go.Shelf
/-- the blocks of P may have turned; of what lay all else lies as it lay -/
structure AsideP (P : Nat → Prop) (w w' : World) : Prop where
  os : w'.os = w.os
  tape : w'.tape = w.tape
  output : w'.output = w.output
  size : w.heap.size ≤ w'.heap.size
  block : ∀ k, k < w.heap.size → ¬ P k → w'.heap[k]? = w.heap[k]?
section
variable {P : Nat → Prop} {g h k : Nat} {w W w1 w2 : World} {cs : Array Value} {v : Value}
theorem AsideP.of_below (b : Below w.heap.size w W) : AsideP P w W := ⟨b.os, b.tape, b.output, b.size, fun k hk _ => b.block k hk⟩
theorem AsideP.trans (a : AsideP P w w1) (b : AsideP P w1 w2) : AsideP P w w2 :=
  ⟨b.os.trans a.os, b.tape.trans a.tape, b.output.trans a.output, Nat.le_trans a.size b.size, fun k hk h1 => (b.block k (Nat.lt_of_lt_of_le hk a.size) h1).trans (a.block k hk h1)⟩
theorem AsideP.low (a : AsideP P w W) (b : Below W.heap.size W w2) : AsideP P w w2 := a.trans (.of_below b)
theorem AsideP.two (a : AsideP P w W) (b : Aside2 g h W w2) (hg : P g) (hh : P h) : AsideP P w w2 :=
  a.trans ⟨b.os, b.tape, b.output, b.size, fun k hk hn => b.block k hk (fun e => hn (e ▸ hg)) (fun e => hn (e ▸ hh))⟩
theorem AsideP.below {n : Nat} {a : World} (b : AsideP P w W) (hb : Below n a w) (hP : ∀ k, P k → n ≤ k) (hn : n ≤ w.heap.size) : Below n a W :=
  ⟨b.os.trans hb.os, b.tape.trans hb.tape, b.output.trans hb.output, Nat.le_trans hb.size b.size, fun k hk => (b.block k (by omega) (fun e => by have := hP k e; omega)).trans (hb.block k hk)⟩
theorem asideP_alloc_e {o : Obj} (hs : w.heap.size ≤ W.heap.size) : AsideP P w (W.alloc o) = AsideP P w W := propext ⟨fun a => ⟨a.os, a.tape, a.output, hs, fun k hk h1 => by
    rw [← a.block k hk h1]
    show W.heap[k]? = (W.heap.push o)[k]?
    rw [Array.getElem?_push, if_neg (by omega)]⟩, fun a => a.trans (.of_below ((Below.refl _ W).alloc (Nat.le_refl _) o))⟩
theorem asideP_setCell_e {p : Addr} (hp : P p.block ∨ w.heap.size ≤ p.block) : AsideP P w (W.setCell p v) = AsideP P w W := propext
  ⟨fun a => ⟨a.os, a.tape, a.output, by simpa using a.size, fun k hk h1 => by
    rw [← a.block k hk h1]
    exact (Below.heap_setCell W p v k (fun e => by subst e; rcases hp with hp | hp; exact h1 hp; omega)).symm⟩,
   fun a => ⟨a.os, a.tape, a.output, by simpa using a.size, fun k hk h1 => (Below.heap_setCell W p v k (fun e => by subst e; rcases hp with hp | hp; exact h1 hp; omega)).trans (a.block k hk h1)⟩⟩
theorem asideP_setRow_e {p : Nat} (hp : P p ∨ w.heap.size ≤ p) : AsideP P w (W.setRow p cs) = AsideP P w W := propext
  ⟨fun a => ⟨a.os, a.tape, a.output, by simpa using a.size, fun k hk h1 => by
    rw [← a.block k hk h1]
    exact (setRow_other W p k cs (fun e => by subst e; rcases hp with hp | hp; exact h1 hp; omega)).symm⟩,
   fun a => ⟨a.os, a.tape, a.output, by simpa using a.size, fun k hk h1 => (setRow_other W p k cs (fun e => by subst e; rcases hp with hp | hp; exact h1 hp; omega)).trans (a.block k hk h1)⟩⟩
theorem asideP_drew_e : AsideP P w W.drew = AsideP P w W := propext ⟨fun a => ⟨a.os, a.tape, a.output, a.size, a.block⟩, fun a => ⟨a.os, a.tape, a.output, a.size, a.block⟩⟩
theorem asideP_drewN_e {n : Nat} : AsideP P w (W.drewN n) = AsideP P w W := propext ⟨fun a => ⟨a.os, a.tape, a.output, a.size, a.block⟩, fun a => ⟨a.os, a.tape, a.output, a.size, a.block⟩⟩
theorem asideP_refl_e : AsideP P w w = True := propext ⟨fun _ => trivial, fun _ => .of_below (Below.refl _ _)⟩
end
/-- one of four -/
def In4 (a b c d k : Nat) : Prop := k = a ∨ k = b ∨ k = c ∨ k = d
theorem in4a {a b c d : Nat} : In4 a b c d a := .inl rfl
theorem in4b {a b c d : Nat} : In4 a b c d b := .inr (.inl rfl)
theorem in4c {a b c d : Nat} : In4 a b c d c := .inr (.inr (.inl rfl))
theorem in4d {a b c d : Nat} : In4 a b c d d := .inr (.inr (.inr rfl))
theorem not_in4 {a b c d k : Nat} (h1 : ¬ k = a) (h2 : ¬ k = b) (h3 : ¬ k = c) (h4 : ¬ k = d) : ¬ In4 a b c d k := fun h => by rcases h with h | h | h | h; exact h1 h; exact h2 h; exact h3 h; exact h4 h
end Go.Proofs.Ytkbaghblchlcnaa
namespace Go.Proofs.Ytkbaghblchlcnaa.Lr
open Go.RowKit Go.Shelf Go.Proofs.YtkbaghblchlcnaaW.PrintWords Go.Proofs.Ytkbaghblchlcnaa.IAll
open Classical in
noncomputable def loadN (n : Nat) (ls : List S54) : Int := if n < ls.length then 1 else if goodL ls then 0 else 200
open Classical in
noncomputable def loadXs (n : Nat) (xs ls : List S54) : List S54 := if n < ls.length then xs else if goodL ls then tgt ls n else xs
noncomputable def loadS (n : Nat) (s : VS) (ls : List S54) : VS := { s with xs := loadXs n s.xs ls }
section
variable (n g bl : Nat) (s : VS) (h : SOk n s) (hne : ¬ g = bl) (w : World) (hl : isRow w bl) (hl' : rowAt w bl = FA s.xs) (A : Option Addr) (c : Nat) (ls : List S54) (hC : Kd.C k54 w A ls.length ls) (hc : ls.length ≤ c)
include h hne hl hl' hC hc
theorem vload_c (hA : ∀ ad, A = some ad → 0 < ls.length → ad.block < w.heap.size ∧ ad.block ≠ bl) (hr : isRow w g) (hr' : rowAt w g = vrow n bl s) :
    Calls Try.prog 16 #[.pointer (some ⟨g, 0, none⟩), .slice A ls.length c] w fun e w' => e = .returned (.int .i64 (loadN n ls)) ∧ Row w' g (vrow n bl (loadS n s ls)) ∧ Row w' bl (FA (loadS n s ls).xs) ∧ Aside2 g bl w w' := by
  obtain ⟨rfl, h16, h0, hst, hlo, hhi⟩ := h
  have hne' : ¬ bl = g := fun e => hne e.symm
  obtain ⟨m, p0, p1, o0, o1, sp, a, b, xs, lost⟩ := s
  have h16' : xs.length ≤ 16 := h16
  unfold loadS loadN loadXs
  unfold vrow at hr' ⊢
  by_cases hlt : xs.length < ls.length
  · simp only [if_pos hlt]
    exact load_big g bl m p0 p1 o0 o1 sp a b xs.length (FA xs) lost A c ls w hr hr' hl hl' hne hne' hlt
  · simp only [if_neg hlt]
    by_cases hg : goodL ls
    · simp only [if_pos hg]
      exact load_ok g bl m p0 p1 o0 o1 sp a b xs.length (FA xs) lost A c ls w hr hr' hl hl' hne hne' hlt (Lib.hid hC) (Lib.hid (fun W hW => lr_Right.calls 400 A c ls 0 W hW hc (lright_good ls (by omega) hg))) (FA_size xs) h0 hA
    · simp only [if_neg hg]
      exact load_bad g bl m p0 p1 o0 o1 sp a b xs.length (FA xs) lost A c ls w hr hr' hl hl' hne hne' hlt (Lib.hid hC) (Lib.hid (fun W hW => lr_Right.calls 400 A c ls 200 W hW hc (lright_bad ls (by omega) hg)))
theorem rload_c (hA : ∀ ad, A = some ad → 0 < ls.length → ad.block < w.heap.size ∧ ad.block ≠ bl ∧ ad.block ≠ g) (hr : isRow w g) (hr' : rowAt w g = rrow n bl s) :
    Calls Try.prog 62 #[.pointer (some ⟨g, 0, none⟩), .slice A ls.length c] w fun e w' => e = .returned (.int .i64 (loadN n ls)) ∧ Row w' g (rrow n bl (loadS n s ls)) ∧ Row w' bl (FA (loadS n s ls).xs) ∧ Aside2 g bl w w' := by
  obtain ⟨rfl, h16, h0, hst, hlo, hhi⟩ := h
  have hne' : ¬ bl = g := fun e => hne e.symm
  obtain ⟨m, p0, p1, o0, o1, sp, a, b, xs, lost⟩ := s
  have h16' : xs.length ≤ 16 := h16
  unfold loadS loadN loadXs
  unfold rrow at hr' ⊢
  by_cases hlt : xs.length < ls.length
  · simp only [if_pos hlt]
    exact rload_big g bl _ RC_size xs.length lost A c ls xs w hr hr' hl hl' hne hne' hlt
  · simp only [if_neg hlt]
    by_cases hg : goodL ls
    · simp only [if_pos hg]
      exact rload_ok g bl _ RC_size xs.length lost A c ls xs w hr hr' hl hl' hne hne' hlt (Lib.hid hC) (Lib.hid (fun W hW => crierref20_Right.calls 400 A c ls 0 W hW hc (rright_good ls (by omega) hg))) (Lib.hid rfl) h16 hA
    · simp only [if_neg hg]
      exact rload_bad g bl _ RC_size xs.length lost A c ls xs w hr hr' hl hl' hne hne' hlt (Lib.hid hC) (Lib.hid (fun W hW => crierref20_Right.calls 400 A c ls 200 W hW hc (rright_bad ls (by omega) hg)))
end
/-- what stands in the list registers behind an unload -/
def freeS (n : Nat) (s : VS) : VS := { s with xs := List.replicate n z54 }
theorem vunload_c (n g bl : Nat) (s : VS) (h : SOk n s) (hne : ¬ g = bl) (w : World) (hl : isRow w bl) (hl' : rowAt w bl = FA s.xs) (hr : isRow w g) (hr' : rowAt w g = vrow n bl s) :
    Calls Try.prog 27 #[.pointer (some ⟨g, 0, none⟩)] w fun e w' => ∃ v, e = .returned v ∧ w'.ownsRow w.heap.size 54 7 v (nf s.xs).length (fl (nf s.xs)) ∧ Row w' g (vrow n bl (freeS n s)) ∧ Row w' bl (FA (freeS n s).xs) ∧ Aside2 g bl w w' := by
  obtain ⟨rfl, h16, h0, hst, hlo, hhi⟩ := h
  exact unload_c g bl s.m s.p0 s.p1 s.o0 s.o1 s.sp s.a s.b s.xs.length s.lost s.xs h0 w hr hr' hl hl' hne (fun e => hne e.symm) (Lib.hid rfl) h16
theorem runload'_c (n g bl : Nat) (s : VS) (h : SOk n s) (hne : ¬ g = bl) (w : World) (hl : isRow w bl) (hl' : rowAt w bl = FA s.xs) (hr : isRow w g) (hr' : rowAt w g = rrow n bl s) :
    Calls Try.prog 63 #[.pointer (some ⟨g, 0, none⟩)] w fun e w' => ∃ v, e = .returned v ∧ w'.ownsRow w.heap.size 54 7 v (nf s.xs).length (fl (nf s.xs)) ∧ Row w' g (rrow n bl (freeS n s)) ∧ Row w' bl (FA (freeS n s).xs) ∧ Aside2 g bl w w' := by
  obtain ⟨rfl, h16, h0, hst, hlo, hhi⟩ := h
  exact runload_c g bl _ RC_size s.xs.length s.lost s.xs w hr hr' hl hl' hne (fun e => hne e.symm) (Lib.hid rfl) h16
/-- a row of list registers of the call's own is read -/
theorem own_reads {W : World} {base : Nat} {v : Value} {ys : List S54} (h : W.ownsRow base 54 7 v ys.length (fl ys)) (hl : ys.length ≤ 9223372036854775807) : ∃ A c, v = .slice A ys.length c ∧ ys.length ≤ c ∧ Kd.C k54 W A ys.length ys := by
  obtain ⟨-, h2⟩ := h
  rcases h2 with ⟨rfl, h0⟩ | ⟨g, cap, cur, rfl, hg, hh, hcap, hmax, hcs, htk⟩
  · exact ⟨none, 0, by rw [h0], by omega, ⟨rfl, hl, fun hn => by omega⟩⟩
  · refine ⟨some ⟨g, 0, none⟩, cap, rfl, hcap, rfl, hl, fun _ => ⟨⟨g, 0, none⟩, rfl, fun j p hp => ⟨(enc p).toList, rfl, k54_mk W p, fun i u hu => ?_⟩⟩⟩
    have hj : j < ys.length := (List.getElem?_eq_some_iff.1 hp).1
    have hi : i < 7 := by have := (List.getElem?_eq_some_iff.1 hu).1; simpa [enc] using this
    have ea : (⟨g, 0, none⟩ : Addr).add (j * 7 + i) = ⟨g, j * 7 + i, none⟩ := addr_at g _
    show W.cell? ((⟨g, 0, none⟩ : Addr).add (j * 7 + i)) = _
    have hrow : Row W g cur := Row.of (t := 54) hh
    rw [ea, cell_row hrow.1, hrow.2, ← hu]
    have hg2 := fl_get ys j i hj hi
    rw [← htk, List.getElem?_take_of_lt (by omega), Array.getElem?_toList] at hg2
    rw [hg2, List.getD_eq_getElem?_getD, hp]; rfl
end Go.Proofs.Ytkbaghblchlcnaa.Lr
namespace Go.Proofs.Ytkbaghblchlcnaa.Lr
open Go.RowKit Go.Shelf Go.Proofs.YtkbaghblchlcnaaW.PrintWords Go.Proofs.Ytkbaghblchlcnaa.IAll
attribute [local go_sem] Oper.semAt_some cell_row frozen_row isRow_setCell_eq rowAt_setCell_same rowAt_setCell_other isRow_alloc_eq rowAt_alloc rowAt_new rowAt_new' isRow_setRow_eq rowAt_setRow_same rowAt_setRow_other isRow_drew rowAt_drew size_setRow_ Lb_size Lb_at blk_ptr aggOf_agg below_alloc_e below_setCell_e below_setRow_e below_refl_e below_drew_r aside2_alloc_e aside2_setCell_e aside2_setRow_e aside2_drew_e aside2_refl_e aside2_drewN_e isRow_drewN rowAt_drewN below_drewN_e le_add_r offv_ptr one_lad zero_lad allOne_nil allOne_cons Value.oneCell' addr_at FA_size one_FA asideP_alloc_e asideP_setCell_e asideP_setRow_e asideP_drew_e asideP_drewN_e asideP_refl_e in4a in4b in4c in4d
attribute [local go_sem ↓] storeI storeC storeE
attribute [local go_sem] eq2i eq2b eq2u
set_option maxRecDepth 100000 in
set_option maxHeartbeats 4000000 in
theorem does_other (gv lv gr lr : Nat) (V Q C : Array Value) (d : Int) (A : Option Addr) (k c : Nat) (r : Int) (wr : Bool) (x : Int) (w : World) (h1 : isRow w gv) (h1' : rowAt w gv = V) (h2 : isRow w lv) (h2' : rowAt w lv = C) (h3 : isRow w gr) (h3' : rowAt w gr = Q) (h4 : isRow w lr) (h4' : rowAt w lr = C) (n12 : ¬ gv = lv) (n13 : ¬ gv = gr) (n14 : ¬ gv = lr) (n23 : ¬ lv = gr) (n24 : ¬ lv = lr) (n34 : ¬ gr = lr) (t1 : (d == 1) = false) (t2 : (d == 2) = false) (t3 : (d == 3) = false) :
    Calls Try.prog 34 #[.pointer (some ⟨gv, 0, none⟩), .pointer (some ⟨gr, 0, none⟩), .agg #[.int .i64 d, .slice A k c, .int .i64 r, .bool wr, .int .u64 x]] w fun e w' => e = .returned (.bool true) ∧ Row w' gv V ∧ Row w' lv C ∧ Row w' gr Q ∧ Row w' lr C ∧ AsideP (In4 gv lv gr lr) w w' := by
  have n21 : ¬ lv = gv := fun e => n12 e.symm
  have n31 : ¬ gr = gv := fun e => n13 e.symm
  have n41 : ¬ lr = gv := fun e => n14 e.symm
  have n32 : ¬ gr = lv := fun e => n23 e.symm
  have n42 : ¬ lr = lv := fun e => n24 e.symm
  have n43 : ¬ lr = gr := fun e => n34 e.symm
  have _u : True := by have _ := n21; have _ := n31; have _ := n41; have _ := n32; have _ := n42; have _ := n43; trivial
  clear _u
  have hX : AsideP (In4 gv lv gr lr) w w := .of_below (Below.refl _ _)
  have l1 := h1.lt
  have l2 := h2.lt
  have l3 := h3.lt
  have l4 := h4.lt
  have x1 : ¬ gv = w.heap.size := by omega
  have x2 : ¬ lv = w.heap.size := by omega
  have x3 : ¬ gr = w.heap.size := by omega
  have x4 : ¬ lr = w.heap.size := by omega
  have y1 : ¬ w.heap.size = gv := by omega
  have y2 : ¬ w.heap.size = lv := by omega
  have y3 : ¬ w.heap.size = gr := by omega
  have y4 : ¬ w.heap.size = lr := by omega
  have hB_0 : Below w.heap.size w w := Below.refl _ _
  have ne_VG_X : ¬ gv = w.heap.size := by omega
  have en_VG_X : ¬ w.heap.size = gv := by omega
  have ne_LG_X : ¬ lv = w.heap.size := by omega
  have en_LG_X : ¬ w.heap.size = lv := by omega
  have ne_RG_X : ¬ gr = w.heap.size := by omega
  have en_RG_X : ¬ w.heap.size = gr := by omega
  have ne_LR_X : ¬ lr = w.heap.size := by omega
  have en_LR_X : ¬ w.heap.size = lr := by omega
  go_enter Try.func34, Try.ntmps34
  go_wp2
  go_ret
  exact ⟨rfl, ⟨by go_simp, by go_simp⟩, ⟨by go_simp, by go_simp⟩, ⟨by go_simp, by go_simp⟩, ⟨by go_simp, by go_simp⟩, by go_simp⟩
set_option maxRecDepth 100000 in
set_option maxHeartbeats 4000000 in
theorem does_do (gv lv gr lr : Nat) (V Q C V' Q' C' : Array Value) (A : Option Addr) (k c : Nat) (r : Int) (wr : Bool) (x : Int) (w : World) (h1 : isRow w gv) (h1' : rowAt w gv = V) (h2 : isRow w lv) (h2' : rowAt w lv = C) (h3 : isRow w gr) (h3' : rowAt w gr = Q) (h4 : isRow w lr) (h4' : rowAt w lr = C) (n12 : ¬ gv = lv) (n13 : ¬ gv = gr) (n14 : ¬ gv = lr) (n23 : ¬ lv = gr) (n24 : ¬ lv = lr) (n34 : ¬ gr = lr) (tn tm : Int) (tok tis : Bool) (HV : Hid (∀ W : World, isRow W gv → rowAt W gv = V → isRow W lv → rowAt W lv = C → Calls Try.prog 28 #[.pointer (some ⟨gv, 0, none⟩), .int .i64 r, .bool wr, .int .u64 x] W fun e w' => e = .returned (.tuple #[.int .u64 tn, .agg #[.bool tok, .int .i64 tm], .bool tis]) ∧ Row w' gv V' ∧ Row w' lv C' ∧ Aside2 gv lv W w')) (HR : Hid (∀ W : World, isRow W gr → rowAt W gr = Q → isRow W lr → rowAt W lr = C → Calls Try.prog 64 #[.pointer (some ⟨gr, 0, none⟩), .int .i64 r, .bool wr, .int .u64 x] W fun e w' => e = .returned (.tuple #[.int .u64 tn, .bool tok, .int .i64 tm, .bool tis]) ∧ Row w' gr Q' ∧ Row w' lr C' ∧ Aside2 gr lr W w')) :
    Calls Try.prog 34 #[.pointer (some ⟨gv, 0, none⟩), .pointer (some ⟨gr, 0, none⟩), .agg #[.int .i64 3, .slice A k c, .int .i64 r, .bool wr, .int .u64 x]] w fun e w' => e = .returned (.bool true) ∧ Row w' gv V' ∧ Row w' lv C' ∧ Row w' gr Q' ∧ Row w' lr C' ∧ AsideP (In4 gv lv gr lr) w w' := by
  have n21 : ¬ lv = gv := fun e => n12 e.symm
  have n31 : ¬ gr = gv := fun e => n13 e.symm
  have n41 : ¬ lr = gv := fun e => n14 e.symm
  have n32 : ¬ gr = lv := fun e => n23 e.symm
  have n42 : ¬ lr = lv := fun e => n24 e.symm
  have n43 : ¬ lr = gr := fun e => n34 e.symm
  have _u : True := by have _ := n21; have _ := n31; have _ := n41; have _ := n32; have _ := n42; have _ := n43; trivial
  clear _u
  have hX : AsideP (In4 gv lv gr lr) w w := .of_below (Below.refl _ _)
  have l1 := h1.lt
  have l2 := h2.lt
  have l3 := h3.lt
  have l4 := h4.lt
  have x1 : ¬ gv = w.heap.size := by omega
  have x2 : ¬ lv = w.heap.size := by omega
  have x3 : ¬ gr = w.heap.size := by omega
  have x4 : ¬ lr = w.heap.size := by omega
  have y1 : ¬ w.heap.size = gv := by omega
  have y2 : ¬ w.heap.size = lv := by omega
  have y3 : ¬ w.heap.size = gr := by omega
  have y4 : ¬ w.heap.size = lr := by omega
  have hB_0 : Below w.heap.size w w := Below.refl _ _
  have ne_VG_X : ¬ gv = w.heap.size := by omega
  have en_VG_X : ¬ w.heap.size = gv := by omega
  have ne_LG_X : ¬ lv = w.heap.size := by omega
  have en_LG_X : ¬ w.heap.size = lv := by omega
  have ne_RG_X : ¬ gr = w.heap.size := by omega
  have en_RG_X : ¬ w.heap.size = gr := by omega
  have ne_LR_X : ¬ lr = w.heap.size := by omega
  have en_LR_X : ¬ w.heap.size = lr := by omega
  go_enter Try.func34, Try.ntmps34
  go_wp2_with fail
  refine (HV.out _ (by go_simp) (by go_simp) (by go_simp) (by go_simp)).mono ?_
  rintro e v1 ⟨rfl, ⟨VG_1, VG_1'⟩, ⟨LG_1, LG_1'⟩, hA1⟩
  obtain ⟨RG_1, RG_1'⟩ : Row v1 gr Q := hA1.row ⟨by go_simp, by go_simp⟩ (by omega) (by omega)
  obtain ⟨LR_1, LR_1'⟩ : Row v1 lr C := hA1.row ⟨by go_simp, by go_simp⟩ (by omega) (by omega)
  obtain ⟨X_1, X_1'⟩ : Row v1 w.heap.size #[.int .i64 3, .slice A k c, .int .i64 r, .bool wr, .int .u64 x] := hA1.row ⟨by go_simp, by go_simp⟩ (by omega) (by omega)
  have hB_1 : AsideP (In4 gv lv gr lr) w v1 := AsideP.two (by go_simp) hA1 (by simp [In4]) (by simp [In4])
  clear h1 h1' h2 h2' h3 h3' h4 h4' hX hA1
  have hz_1 : w.heap.size ≤ v1.heap.size := hB_1.size
  have hl_VG_1 := isRow.lt VG_1
  have ne_VG_1_0 : ¬ gv = v1.heap.size := by omega
  have en_VG_1_0 : ¬ v1.heap.size = gv := by omega
  have hl_LG_1 := isRow.lt LG_1
  have ne_LG_1_0 : ¬ lv = v1.heap.size := by omega
  have en_LG_1_0 : ¬ v1.heap.size = lv := by omega
  have hl_RG_1 := isRow.lt RG_1
  have ne_RG_1_0 : ¬ gr = v1.heap.size := by omega
  have en_RG_1_0 : ¬ v1.heap.size = gr := by omega
  have hl_LR_1 := isRow.lt LR_1
  have ne_LR_1_0 : ¬ lr = v1.heap.size := by omega
  have en_LR_1_0 : ¬ v1.heap.size = lr := by omega
  have hl_X_1 := isRow.lt X_1
  have ne_X_1_0 : ¬ w.heap.size = v1.heap.size := by omega
  have en_X_1_0 : ¬ v1.heap.size = w.heap.size := by omega
  have ne_VG_E : ¬ gv = v1.heap.size := by omega
  have en_VG_E : ¬ v1.heap.size = gv := by omega
  have ne_LG_E : ¬ lv = v1.heap.size := by omega
  have en_LG_E : ¬ v1.heap.size = lv := by omega
  have ne_RG_E : ¬ gr = v1.heap.size := by omega
  have en_RG_E : ¬ v1.heap.size = gr := by omega
  have ne_LR_E : ¬ lr = v1.heap.size := by omega
  have en_LR_E : ¬ v1.heap.size = lr := by omega
  have ne_X_E : ¬ w.heap.size = v1.heap.size := by omega
  have en_X_E : ¬ v1.heap.size = w.heap.size := by omega
  go_wp2_with fail
  refine (HR.out _ (by go_simp) (by go_simp) (by go_simp) (by go_simp)).mono ?_
  rintro e v2 ⟨rfl, ⟨RG_2, RG_2'⟩, ⟨LR_2, LR_2'⟩, hA2⟩
  obtain ⟨VG_2, VG_2'⟩ : Row v2 gv V' := hA2.row ⟨by go_simp, by go_simp⟩ (by omega) (by omega)
  obtain ⟨LG_2, LG_2'⟩ : Row v2 lv C' := hA2.row ⟨by go_simp, by go_simp⟩ (by omega) (by omega)
  obtain ⟨X_2, X_2'⟩ : Row v2 w.heap.size #[.int .i64 3, .slice A k c, .int .i64 r, .bool wr, .int .u64 x] := hA2.row ⟨by go_simp, by go_simp⟩ (by omega) (by omega)
  obtain ⟨E_2, E_2'⟩ : Row v2 v1.heap.size #[.bool tok, .int .i64 tm] := hA2.row ⟨by go_simp, by go_simp⟩ (by omega) (by omega)
  have hB_2 : AsideP (In4 gv lv gr lr) w v2 := AsideP.two (by go_simp) hA2 (by simp [In4]) (by simp [In4])
  clear VG_1 VG_1' LG_1 LG_1' RG_1 RG_1' LR_1 LR_1' X_1 X_1' hB_1 hA2
  have hz_2 : w.heap.size ≤ v2.heap.size := hB_2.size
  have hl_VG_2 := isRow.lt VG_2
  have ne_VG_2_0 : ¬ gv = v2.heap.size := by omega
  have en_VG_2_0 : ¬ v2.heap.size = gv := by omega
  have hl_LG_2 := isRow.lt LG_2
  have ne_LG_2_0 : ¬ lv = v2.heap.size := by omega
  have en_LG_2_0 : ¬ v2.heap.size = lv := by omega
  have hl_RG_2 := isRow.lt RG_2
  have ne_RG_2_0 : ¬ gr = v2.heap.size := by omega
  have en_RG_2_0 : ¬ v2.heap.size = gr := by omega
  have hl_LR_2 := isRow.lt LR_2
  have ne_LR_2_0 : ¬ lr = v2.heap.size := by omega
  have en_LR_2_0 : ¬ v2.heap.size = lr := by omega
  have hl_X_2 := isRow.lt X_2
  have ne_X_2_0 : ¬ w.heap.size = v2.heap.size := by omega
  have en_X_2_0 : ¬ v2.heap.size = w.heap.size := by omega
  have hl_E_2 := isRow.lt E_2
  have ne_E_2_0 : ¬ v1.heap.size = v2.heap.size := by omega
  have en_E_2_0 : ¬ v2.heap.size = v1.heap.size := by omega
  go_wp2
  go_ret
  exact ⟨rfl, ⟨by go_simp, by go_simp⟩, ⟨by go_simp, by go_simp⟩, ⟨by go_simp, by go_simp⟩, ⟨by go_simp, by go_simp⟩, by go_simp⟩
end Go.Proofs.Ytkbaghblchlcnaa.Lr
namespace Go.Proofs.Ytkbaghblchlcnaa.Lr
open Go.RowKit Go.Shelf Go.Proofs.YtkbaghblchlcnaaW.PrintWords Go.Proofs.Ytkbaghblchlcnaa.IAll
theorem aside2_own {W w1 : World} {g h n₀ : Nat} {e : TypeId} {size : Nat} {v : Value} {k : Nat} {xs : List Value} (hrow : W.ownsRow n₀ e size v k xs) (a : Aside2 g h W w1) (hg : g < n₀) (hh : h < n₀) : w1.ownsRow n₀ e size v k xs :=
  own_move hrow (fun j hj => a.block j (own_lt hrow j hj) (by have := own_base hrow j hj; omega) (by have := own_base hrow j hj; omega))
attribute [local go_sem] Oper.semAt_some cell_row frozen_row isRow_setCell_eq rowAt_setCell_same rowAt_setCell_other isRow_alloc_eq rowAt_alloc rowAt_new rowAt_new' isRow_setRow_eq rowAt_setRow_same rowAt_setRow_other isRow_drew rowAt_drew size_setRow_ Lb_size Lb_at blk_ptr aggOf_agg below_alloc_e below_setCell_e below_setRow_e below_refl_e below_drew_r aside2_alloc_e aside2_setCell_e aside2_setRow_e aside2_drew_e aside2_refl_e aside2_drewN_e isRow_drewN rowAt_drewN below_drewN_e le_add_r offv_ptr one_lad zero_lad allOne_nil allOne_cons Value.oneCell' addr_at FA_size one_FA asideP_alloc_e asideP_setCell_e asideP_setRow_e asideP_drew_e asideP_drewN_e asideP_refl_e in4a in4b in4c in4d
attribute [local go_sem ↓] storeI storeC storeE
attribute [local go_sem] eq2i eq2b eq2u
set_option maxRecDepth 100000 in
set_option maxHeartbeats 4000000 in
theorem does_un (gv lv gr lr : Nat) (V Q C V' Q' C' : Array Value) (A : Option Addr) (k c : Nat) (r : Int) (wr : Bool) (x : Int) (w : World) (h1 : isRow w gv) (h1' : rowAt w gv = V) (h2 : isRow w lv) (h2' : rowAt w lv = C) (h3 : isRow w gr) (h3' : rowAt w gr = Q) (h4 : isRow w lr) (h4' : rowAt w lr = C) (n12 : ¬ gv = lv) (n13 : ¬ gv = gr) (n14 : ¬ gv = lr) (n23 : ¬ lv = gr) (n24 : ¬ lv = lr) (n34 : ¬ gr = lr) (ys : List S54) (hy : ys.length ≤ 16) (HV : (Hid (∀ W : World, isRow W gv → rowAt W gv = V → isRow W lv → rowAt W lv = C → Calls Try.prog 27 #[.pointer (some ⟨gv, 0, none⟩)] W fun e w' => ∃ v, e = .returned v ∧ w'.ownsRow W.heap.size 54 7 v ys.length (fl ys) ∧ Row w' gv V' ∧ Row w' lv C' ∧ Aside2 gv lv W w'))) (HR : (Hid (∀ W : World, isRow W gr → rowAt W gr = Q → isRow W lr → rowAt W lr = C → Calls Try.prog 63 #[.pointer (some ⟨gr, 0, none⟩)] W fun e w' => ∃ v, e = .returned v ∧ w'.ownsRow W.heap.size 54 7 v ys.length (fl ys) ∧ Row w' gr Q' ∧ Row w' lr C' ∧ Aside2 gr lr W w'))) :
    Calls Try.prog 34 #[.pointer (some ⟨gv, 0, none⟩), .pointer (some ⟨gr, 0, none⟩), .agg #[.int .i64 2, .slice A k c, .int .i64 r, .bool wr, .int .u64 x]] w fun e w' => e = .returned (.bool true) ∧ Row w' gv V' ∧ Row w' lv C' ∧ Row w' gr Q' ∧ Row w' lr C' ∧ AsideP (In4 gv lv gr lr) w w' := by
  have n21 : ¬ lv = gv := fun e => n12 e.symm
  have n31 : ¬ gr = gv := fun e => n13 e.symm
  have n41 : ¬ lr = gv := fun e => n14 e.symm
  have n32 : ¬ gr = lv := fun e => n23 e.symm
  have n42 : ¬ lr = lv := fun e => n24 e.symm
  have n43 : ¬ lr = gr := fun e => n34 e.symm
  have _u : True := by have _ := n21; have _ := n31; have _ := n41; have _ := n32; have _ := n42; have _ := n43; trivial
  clear _u
  have hX : AsideP (In4 gv lv gr lr) w w := .of_below (Below.refl _ _)
  have l1 := h1.lt
  have l2 := h2.lt
  have l3 := h3.lt
  have l4 := h4.lt
  have x1 : ¬ gv = w.heap.size := by omega
  have x2 : ¬ lv = w.heap.size := by omega
  have x3 : ¬ gr = w.heap.size := by omega
  have x4 : ¬ lr = w.heap.size := by omega
  have y1 : ¬ w.heap.size = gv := by omega
  have y2 : ¬ w.heap.size = lv := by omega
  have y3 : ¬ w.heap.size = gr := by omega
  have y4 : ¬ w.heap.size = lr := by omega
  have hB_0 : Below w.heap.size w w := Below.refl _ _
  have ne_VG_X : ¬ gv = w.heap.size := by omega
  have en_VG_X : ¬ w.heap.size = gv := by omega
  have ne_LG_X : ¬ lv = w.heap.size := by omega
  have en_LG_X : ¬ w.heap.size = lv := by omega
  have ne_RG_X : ¬ gr = w.heap.size := by omega
  have en_RG_X : ¬ w.heap.size = gr := by omega
  have ne_LR_X : ¬ lr = w.heap.size := by omega
  have en_LR_X : ¬ w.heap.size = lr := by omega
  go_enter Try.func34, Try.ntmps34
  go_wp2_with fail
  refine (HV.out _ (by go_simp) (by go_simp) (by go_simp) (by go_simp)).mono ?_
  rintro e v1 ⟨u, rfl, hown, ⟨VG_1, VG_1'⟩, ⟨LG_1, LG_1'⟩, hA1⟩
  have hsz1 : (w.alloc (.cells #[.int .i64 2, .slice A k c, .int .i64 r, .bool wr, .int .u64 x] 80)).heap.size = w.heap.size + 1 := by simp
  obtain ⟨RG_1, RG_1'⟩ : Row v1 gr Q := hA1.row ⟨by go_simp, by go_simp⟩ (by omega) (by omega)
  obtain ⟨LR_1, LR_1'⟩ : Row v1 lr C := hA1.row ⟨by go_simp, by go_simp⟩ (by omega) (by omega)
  have hF1 : AsideP (In4 gv lv gr lr) w v1 := AsideP.two (by go_simp) hA1 (by simp [In4]) (by simp [In4])
  rw [hsz1] at hown
  obtain ⟨A1, c1, rfl, hc1, hC1⟩ := own_reads hown (by omega)
  clear h1 h1' h2 h2' h3 h3' h4 h4' hX hA1 hsz1
  have HO := Lib.hid hown
  clear hown hC1
  go_wp2_with fail
  refine (HR.out _ (by go_simp) (by go_simp) (by go_simp) (by go_simp)).mono ?_
  rintro e v2 ⟨u2, rfl, hown2, ⟨RG_2, RG_2'⟩, ⟨LR_2, LR_2'⟩, hA2⟩
  obtain ⟨VG_2, VG_2'⟩ : Row v2 gv V' := hA2.row ⟨VG_1, VG_1'⟩ (by omega) (by omega)
  obtain ⟨LG_2, LG_2'⟩ : Row v2 lv C' := hA2.row ⟨LG_1, LG_1'⟩ (by omega) (by omega)
  have hF2 : AsideP (In4 gv lv gr lr) w v2 := AsideP.two hF1 hA2 (by simp [In4]) (by simp [In4])
  have ho1 := aside2_own HO.out hA2 (by omega) (by omega)
  obtain ⟨A1b, c1b, he, hc1b, hC1b⟩ := own_reads ho1 (by omega)
  obtain ⟨rfl, rfl⟩ : A1 = A1b ∧ c1 = c1b := by injection he with a1 a2 a3; exact ⟨a1, a3⟩
  obtain ⟨A2, c2, rfl, hc2, hC2⟩ := own_reads hown2 (by omega)
  clear VG_1 VG_1' LG_1 LG_1' RG_1 RG_1' LR_1 LR_1' hF1 hA2 he
  have HC1 := Lib.hid hC1b
  have HC2 := Lib.hid hC2
  clear hC1b hC2 ho1 hown2
  go_wp2_with fail
  refine (crierlaw21_same.calls (ys.length + 1) A1 c1 ys A2 c2 ys true _ HC1.out hc1b HC2.out hc2 (same_is ys (by omega))).mono ?_
  rintro e v3 ⟨rfl, hd3⟩
  have hb3 := below_drawn0 hd3
  obtain ⟨VG_3, VG_3'⟩ := Row.step VG_2 VG_2' hb3
  obtain ⟨LG_3, LG_3'⟩ := Row.step LG_2 LG_2' hb3
  obtain ⟨RG_3, RG_3'⟩ := Row.step RG_2 RG_2' hb3
  obtain ⟨LR_3, LR_3'⟩ := Row.step LR_2 LR_2' hb3
  have hF3 := hF2.low hb3
  clear VG_2 VG_2' LG_2 LG_2' RG_2 RG_2' LR_2 LR_2' hF2 hb3 hd3
  go_wp2
  go_ret
  exact ⟨rfl, ⟨VG_3, VG_3'⟩, ⟨LG_3, LG_3'⟩, ⟨RG_3, RG_3'⟩, ⟨LR_3, LR_3'⟩, hF3⟩
end Go.Proofs.Ytkbaghblchlcnaa.Lr
namespace Go.Proofs.Ytkbaghblchlcnaa.Lr
open Go.RowKit Go.Shelf Go.Proofs.YtkbaghblchlcnaaW.PrintWords Go.Proofs.Ytkbaghblchlcnaa.IAll
theorem spl_size {cur cs : Array Value} {o : Nat} (h : o + cs.size ≤ cur.size) : (spl cur o cs).size = cur.size := by
  unfold spl; simp; omega
/-- the row that the call has made for itself -/
def OwnAt (A : Option Addr) (n K base : Nat) (w : World) : Prop := 0 < n → ∃ ob, A = some ⟨ob, 0, none⟩ ∧ base ≤ ob ∧ isRow w ob ∧ (rowAt w ob).size = K
theorem own_parts {W : World} {base n : Nat} {v : Value} {cs : List Value} (h : W.ownsRow base 54 7 v n cs) : ∃ A c, v = .slice A n c ∧ n ≤ c ∧ OwnAt A n (c * 7) base W := by
  rcases h.2 with ⟨rfl, h0⟩ | ⟨g, cap, cur, rfl, hg, hh, hcap, hmax, hcs, htk⟩
  · exact ⟨none, 0, by rw [h0], by omega, fun hn => by omega⟩
  · have hrow : Row W g cur := Row.of (t := 54) hh
    exact ⟨some ⟨g, 0, none⟩, cap, rfl, hcap, fun _ => ⟨g, rfl, hg, hrow.1, by rw [hrow.2, hcs]⟩⟩
theorem OwnAt.aside2 {A : Option Addr} {n K base g h : Nat} {W w1 : World} (q : OwnAt A n K base W) (a : Aside2 g h W w1) (hg : g < base) (hh : h < base) : OwnAt A n K base w1 := fun hn => by
  obtain ⟨ob, e, hb, o1, o2⟩ := q hn
  obtain ⟨p1, p2⟩ := a.row ⟨o1, rfl⟩ (show ob ≠ g by omega) (show ob ≠ h by omega)
  exact ⟨ob, e, hb, p1, by rw [p2]; exact o2⟩
theorem cfar_p {P : Nat → Prop} {w W : World} {A : Option Addr} {ls : List S54} (h : Kd.C k54 w A ls.length ls) (a : AsideP P w W) (hb : ∀ ad, A = some ad → 0 < ls.length → ad.block < w.heap.size ∧ ¬ P ad.block) : Kd.C k54 W A ls.length ls :=
  C_far h (fun ad e hn => a.block _ (hb ad e hn).1 (hb ad e hn).2)
theorem infoL4 : (Try.prog.info? 54).map (fun i => (i.zero, i.size, i.bytes)) = some (some (.agg (enc z54)), k54.sz, 56) := by kernel_rfl
theorem row_lo {w W : World} {n k : Nat} {cs : Array Value} (h : Row w k cs) (b : Below n w W) (hk : k < n) : Row W k cs := h.below b hk
attribute [local go_sem] Oper.semAt_some cell_row frozen_row isRow_setCell_eq rowAt_setCell_same rowAt_setCell_other isRow_alloc_eq rowAt_alloc rowAt_new rowAt_new' isRow_setRow_eq rowAt_setRow_same rowAt_setRow_other isRow_drew rowAt_drew size_setRow_ Lb_size Lb_at blk_ptr aggOf_agg below_alloc_e below_setCell_e below_setRow_e below_refl_e below_drew_r aside2_alloc_e aside2_setCell_e aside2_setRow_e aside2_drew_e aside2_refl_e aside2_drewN_e isRow_drewN rowAt_drewN below_drewN_e le_add_r offv_ptr one_lad zero_lad allOne_nil allOne_cons Value.oneCell' addr_at FA_size one_FA asideP_alloc_e asideP_setCell_e asideP_setRow_e asideP_drew_e asideP_drewN_e asideP_refl_e in4a in4b in4c in4d
attribute [local go_sem ↓] storeI storeC storeE storeLm
attribute [local go_sem] eq2i eq2b eq2u
set_option maxRecDepth 100000 in
set_option maxHeartbeats 4000000 in
theorem does_ld (gv lv gr lr : Nat) (V Q C V' Q' C' : Array Value) (A : Option Addr) (c : Nat) (r : Int) (wr : Bool) (x : Int) (w : World) (h1 : isRow w gv) (h1' : rowAt w gv = V) (h2 : isRow w lv) (h2' : rowAt w lv = C) (h3 : isRow w gr) (h3' : rowAt w gr = Q) (h4 : isRow w lr) (h4' : rowAt w lr = C) (n12 : ¬ gv = lv) (n13 : ¬ gv = gr) (n14 : ¬ gv = lr) (n23 : ¬ lv = gr) (n24 : ¬ lv = lr) (n34 : ¬ gr = lr) (ls : List S54) (hC : Kd.C k54 w A ls.length ls) (hbig : ls.length * 56 ≤ 140737488351232) (hA : ∀ ad, A = some ad → 0 < ls.length → ad.block < w.heap.size ∧ ¬ In4 gv lv gr lr ad.block) (en : Int)
    (HV : Hid (∀ (W : World) (A' : Option Addr) (c' : Nat), Kd.C k54 W A' ls.length ls → ls.length ≤ c' → (∀ ad, A' = some ad → 0 < ls.length → ad.block < W.heap.size ∧ ad.block ≠ lv) → isRow W gv → rowAt W gv = V → isRow W lv → rowAt W lv = C → Calls Try.prog 16 #[.pointer (some ⟨gv, 0, none⟩), .slice A' ls.length c'] W fun e w' => e = .returned (.int .i64 en) ∧ Row w' gv V' ∧ Row w' lv C' ∧ Aside2 gv lv W w'))
    (HR : Hid (∀ (W : World), Kd.C k54 W A ls.length ls → (∀ ad, A = some ad → 0 < ls.length → ad.block < W.heap.size ∧ ad.block ≠ lr ∧ ad.block ≠ gr) → isRow W gr → rowAt W gr = Q → isRow W lr → rowAt W lr = C → Calls Try.prog 62 #[.pointer (some ⟨gr, 0, none⟩), .slice A ls.length c] W fun e w' => e = .returned (.int .i64 en) ∧ Row w' gr Q' ∧ Row w' lr C' ∧ Aside2 gr lr W w')) :
    Calls Try.prog 34 #[.pointer (some ⟨gv, 0, none⟩), .pointer (some ⟨gr, 0, none⟩), .agg #[.int .i64 1, .slice A ls.length c, .int .i64 r, .bool wr, .int .u64 x]] w fun e w' => e = .returned (.bool true) ∧ Row w' gv V' ∧ Row w' lv C' ∧ Row w' gr Q' ∧ Row w' lr C' ∧ AsideP (In4 gv lv gr lr) w w' := by
  have HC := Lib.hid hC
  have HA := Lib.hid hA
  clear hC hA
  have n21 : ¬ lv = gv := fun e => n12 e.symm
  have n31 : ¬ gr = gv := fun e => n13 e.symm
  have n41 : ¬ lr = gv := fun e => n14 e.symm
  have n32 : ¬ gr = lv := fun e => n23 e.symm
  have n42 : ¬ lr = lv := fun e => n24 e.symm
  have n43 : ¬ lr = gr := fun e => n34 e.symm
  have _u : True := by have _ := n21; have _ := n31; have _ := n41; have _ := n32; have _ := n42; have _ := n43; trivial
  clear _u
  have hX : AsideP (In4 gv lv gr lr) w w := .of_below (Below.refl _ _)
  have l1 := h1.lt
  have l2 := h2.lt
  have l3 := h3.lt
  have l4 := h4.lt
  have x1 : ¬ gv = w.heap.size := by omega
  have x2 : ¬ lv = w.heap.size := by omega
  have x3 : ¬ gr = w.heap.size := by omega
  have x4 : ¬ lr = w.heap.size := by omega
  have y1 : ¬ w.heap.size = gv := by omega
  have y2 : ¬ w.heap.size = lv := by omega
  have y3 : ¬ w.heap.size = gr := by omega
  have y4 : ¬ w.heap.size = lr := by omega
  have hB_0 : Below w.heap.size w w := Below.refl _ _
  have ne_VG_X : ¬ gv = w.heap.size := by omega
  have en_VG_X : ¬ w.heap.size = gv := by omega
  have ne_LG_X : ¬ lv = w.heap.size := by omega
  have en_LG_X : ¬ w.heap.size = lv := by omega
  have ne_RG_X : ¬ gr = w.heap.size := by omega
  have en_RG_X : ¬ w.heap.size = gr := by omega
  have ne_LR_X : ¬ lr = w.heap.size := by omega
  have en_LR_X : ¬ w.heap.size = lr := by omega
  go_enter Try.func34, Try.ntmps34
  have hW : Kd.C k54 (w.alloc (.cells #[.int .i64 1, .slice A ls.length c, .int .i64 r, .bool wr, .int .u64 x] 80)) A ls.length ls := Kd.C_below HC.out ((Below.refl _ w).alloc (Nat.le_refl _) _)
  have HW := Lib.hid hW
  clear hW
  go_wp2_with (at_builtin; refine Kd.R_append_rows k54 (Rr := k54.K (w.alloc (.cells #[.int .i64 1, .slice A ls.length c, .int .i64 r, .bool wr, .int .u64 x] 80))) (w0 := w.alloc (.cells #[.int .i64 1, .slice A ls.length c, .int .i64 r, .bool wr, .int .u64 x] 80)) (w.heap.size + 1) rfl _ _ 22 54 (.agg (enc z54)) 56 rfl Try.underlying22 infoL4 rfl (by decide) (by decide) _ ([] : List S54) ls A ls.length c (fun _ => True) (fun _ => False) rfl rfl (Kd.R_nil _ _ _ _ _) HW.out (fun p cs hp => by rw [k54_open hp]; exact k54_mkM _ _ _ _) (fun _ h => h.elim) (fun _ _ => trivial) (Below.refl _ _) (by simp) (by simp; omega) ?_; intro v1 w1 hR1 hB1 _ _; rw [List.nil_append] at hR1; obtain ⟨-, inner, hown, hreps⟩ := hR1; obtain ⟨A1, c1, rfl, hc1, hO1⟩ := own_parts hown; obtain ⟨A1b, c1b, he, hc1b, hC1⟩ := Kd.R_reads (⟨fun _ _ => trivial, inner, hown, hreps⟩ : k54.R 54 w1 (w.heap.size + 1) (fun _ => True) _ _); obtain ⟨rfl, rfl⟩ : A1 = A1b ∧ c1 = c1b := (by injection he with a1 a2 a3; exact ⟨a1, a3⟩); have hb0 : Below w.heap.size w w1 := ((Below.refl _ w).alloc (Nat.le_refl _) _).trans (hB1.mono (by omega)); have hF1 : AsideP (In4 gv lv gr lr) w w1 := .of_below hb0; obtain ⟨VG_1, VG_1'⟩ : Row w1 gv V := row_lo ⟨h1, h1'⟩ hb0 l1; obtain ⟨LG_1, LG_1'⟩ : Row w1 lv C := row_lo ⟨h2, h2'⟩ hb0 l2; obtain ⟨RG_1, RG_1'⟩ : Row w1 gr Q := row_lo ⟨h3, h3'⟩ hb0 l3; obtain ⟨LR_1, LR_1'⟩ : Row w1 lr C := row_lo ⟨h4, h4'⟩ hb0 l4; obtain ⟨X_1, X_1'⟩ : Row w1 w.heap.size #[.int .i64 1, .slice A ls.length c, .int .i64 r, .bool wr, .int .u64 x] := row_lo ⟨by go_simp, by go_simp⟩ hB1 (by omega); have HO1 := Lib.hid hO1; have HC1 := Lib.hid hC1; clear hown hreps hO1 hC1 he hc1b h1 h1' h2 h2' h3 h3' h4 h4' hX hB1 hb0)
  have hz1 : w.heap.size + 1 ≤ w1.heap.size := X_1.lt
  refine (HV.out _ A1 c1 HC1.out hc1 (fun ad e hn => by
    obtain ⟨ob, e2, hb, o1, -⟩ := HO1.out hn
    rw [e] at e2
    obtain rfl := Option.some.inj e2
    exact ⟨o1.lt, by simp only; omega⟩) VG_1 VG_1' LG_1 LG_1').mono ?_
  rintro e v2 ⟨rfl, ⟨VG_2, VG_2'⟩, ⟨LG_2, LG_2'⟩, hA2⟩
  obtain ⟨RG_2, RG_2'⟩ : Row v2 gr Q := hA2.row ⟨RG_1, RG_1'⟩ (by omega) (by omega)
  obtain ⟨LR_2, LR_2'⟩ : Row v2 lr C := hA2.row ⟨LR_1, LR_1'⟩ (by omega) (by omega)
  obtain ⟨X_2, X_2'⟩ : Row v2 w.heap.size #[.int .i64 1, .slice A ls.length c, .int .i64 r, .bool wr, .int .u64 x] := hA2.row ⟨X_1, X_1'⟩ (by omega) (by omega)
  have hF2 : AsideP (In4 gv lv gr lr) w v2 := AsideP.two hF1 hA2 (by simp [In4]) (by simp [In4])
  have hO2 := Lib.hid (HO1.out.aside2 hA2 (by omega) (by omega))
  clear VG_1 VG_1' LG_1 LG_1' RG_1 RG_1' LR_1 LR_1' X_1 X_1' hF1 hA2 HO1 HC1
  go_wp2_with fail
  go_loopw [9] (fun i wq => ∃ k : Nat, k ≤ ls.length ∧ i = .int .i64 k ∧ Hid (OwnAt A1 ls.length (c1 * 7) (w.heap.size + 1) wq) ∧ Row wq gv V' ∧ Row wq lv C' ∧ Row wq gr Q ∧ Row wq lr C ∧ Row wq w.heap.size #[.int .i64 1, .slice A ls.length c, .int .i64 r, .bool wr, .int .u64 x] ∧ AsideP (In4 gv lv gr lr) w wq) (fun i _ => ls.length - (intOf i).toNat)
  case atStart => exact ⟨0, by omega, rfl, hO2, ⟨VG_2, VG_2'⟩, ⟨LG_2, LG_2'⟩, ⟨RG_2, RG_2'⟩, ⟨LR_2, LR_2'⟩, ⟨X_2, X_2'⟩, hF2⟩
  case round =>
    clear VG_2 VG_2' LG_2 LG_2' RG_2 RG_2' LR_2 LR_2' X_2 X_2' hF2 hO2
    obtain ⟨k, hk, rfl, hO, ⟨G1, G1'⟩, ⟨G2, G2'⟩, ⟨G3, G3'⟩, ⟨G4, G4'⟩, ⟨X1, X1'⟩, hF⟩ := hrel
    by_cases hkn : k < ls.length
    · have k1 : (0 : Int) ≤ (k : Int) := by omega
      have k2 : (k : Int) < (ls.length : Int) := by omega
      obtain ⟨ob, hob, hbo, o1, o2⟩ := hO.out (by omega)
      have hfit : k * 7 + 7 ≤ c1 * 7 := by omega
      have b1 : ¬ ob = gv := by omega
      have b2 : ¬ ob = lv := by omega
      have b3 : ¬ ob = gr := by omega
      have b4 : ¬ ob = lr := by omega
      have b5 : ¬ ob = w.heap.size := by omega
      have b6 : ¬ gv = ob := by omega
      have b7 : ¬ lv = ob := by omega
      have b8 : ¬ gr = ob := by omega
      have b9 : ¬ lr = ob := by omega
      have b0 : ¬ w.heap.size = ob := by omega
      have bw : w.heap.size ≤ ob := by omega
      have hO' : OwnAt A1 ls.length (c1 * 7) (w.heap.size + 1) (wr.setRow ob (spl (rowAt wr ob) (k * 7) #[.int .i64 3, .int .i64 0, .int .i64 0, .int .i64 0, .bool false, .int .i64 0, .bool false])) := fun _ => ⟨ob, hob, hbo, isRow_setRow o1, by rw [rowAt_setRow_same o1, spl_size (by rw [o2]; exact hfit), o2]⟩
      have HO' := Lib.hid hO'
      clear hO' hO
      subst hob
      go_wp2
      go_roundw
      case rel => exact ⟨k + 1, by omega, by go_num, HO', ⟨by go_simp, by go_simp⟩, ⟨by go_simp, by go_simp⟩, ⟨by go_simp, by go_simp⟩, ⟨by go_simp, by go_simp⟩, ⟨by go_simp, by go_simp⟩, by go_simp⟩
      case measure => simp [intOf]; omega
    · have hkn' : k = ls.length := by omega
      go_wp2_with fail
      refine (HR.out _ (cfar_p HC.out hF HA.out) (fun ad e hn => by
        obtain ⟨q1, q2⟩ := HA.out ad e hn
        exact ⟨Nat.lt_of_lt_of_le q1 hF.size, fun h => q2 (h ▸ in4d), fun h => q2 (h ▸ in4c)⟩) G3 G3' G4 G4').mono ?_
      rintro e v3 ⟨rfl, ⟨RG_3, RG_3'⟩, ⟨LR_3, LR_3'⟩, hA3⟩
      obtain ⟨VG_3, VG_3'⟩ : Row v3 gv V' := hA3.row ⟨G1, G1'⟩ (by omega) (by omega)
      obtain ⟨LG_3, LG_3'⟩ : Row v3 lv C' := hA3.row ⟨G2, G2'⟩ (by omega) (by omega)
      have hF3 : AsideP (In4 gv lv gr lr) w v3 := AsideP.two hF hA3 (by simp [In4]) (by simp [In4])
      clear G1 G1' G2 G2' G3 G3' G4 G4' X1 X1' hF hA3 hkn'
      go_wp2
      go_ret
      exact ⟨rfl, ⟨VG_3, VG_3'⟩, ⟨LG_3, LG_3'⟩, ⟨RG_3, RG_3'⟩, ⟨LR_3, LR_3'⟩, hF3⟩
end Go.Proofs.Ytkbaghblchlcnaa.Lr
namespace Go.Proofs.Ytkbaghblchlcnaa.Lr
open Go.RowKit Go.Shelf Go.Proofs.YtkbaghblchlcnaaW.PrintWords Go.Proofs.Ytkbaghblchlcnaa.IAll
noncomputable def actS (n : Nat) (s : VS) (d : Int) (ls : List S54) (r : Int) (wr : Bool) (x : Int) : VS :=
  if d = 1 then loadS n s ls else if d = 2 then freeS n s else if d = 3 then (doV s r wr x).1 else s
theorem does_c (n gv lv gr lr : Nat) (s : VS) (h : SOk n s) (d : Int) (A : Option Addr) (c : Nat) (ls : List S54) (r : Int) (wr : Bool) (x : Int) (hx0 : 0 ≤ x) (hx1 : x ≤ 18446744073709551615) (w : World)
    (h1 : isRow w gv) (h1' : rowAt w gv = vrow n lv s) (h2 : isRow w lv) (h2' : rowAt w lv = FA s.xs) (h3 : isRow w gr) (h3' : rowAt w gr = rrow n lr s) (h4 : isRow w lr) (h4' : rowAt w lr = FA s.xs)
    (n12 : ¬ gv = lv) (n13 : ¬ gv = gr) (n14 : ¬ gv = lr) (n23 : ¬ lv = gr) (n24 : ¬ lv = lr) (n34 : ¬ gr = lr)
    (hC : Kd.C k54 w A ls.length ls) (hc : ls.length ≤ c) (hbig : ls.length * 56 ≤ 140737488351232) (hA : ∀ ad, A = some ad → 0 < ls.length → ad.block < w.heap.size ∧ ¬ In4 gv lv gr lr ad.block) :
    Calls Try.prog 34 #[.pointer (some ⟨gv, 0, none⟩), .pointer (some ⟨gr, 0, none⟩), .agg #[.int .i64 d, .slice A ls.length c, .int .i64 r, .bool wr, .int .u64 x]] w fun e w' => e = .returned (.bool true) ∧
      Row w' gv (vrow n lv (actS n s d ls r wr x)) ∧ Row w' lv (FA (actS n s d ls r wr x).xs) ∧ Row w' gr (rrow n lr (actS n s d ls r wr x)) ∧ Row w' lr (FA (actS n s d ls r wr x).xs) ∧ AsideP (In4 gv lv gr lr) w w' := by
  have h16 := h.n16
  have hlen := h.len
  unfold actS
  by_cases d1 : d = 1
  · subst d1; rw [if_pos rfl]
    exact does_ld gv lv gr lr _ _ _ _ _ _ A c r wr x w h1 h1' h2 h2' h3 h3' h4 h4' n12 n13 n14 n23 n24 n34 ls hC hbig hA (loadN n ls)
      (Lib.hid (fun W A' c' q1 q2 q3 q4 q5 q6 q7 => vload_c n gv lv s h n12 W q6 q7 A' c' ls q1 q2 q3 q4 q5))
      (Lib.hid (fun W q1 q3 q4 q5 q6 q7 => rload_c n gr lr s h n34 W q6 q7 A c ls q1 hc q3 q4 q5))
  rw [if_neg d1]
  by_cases d2 : d = 2
  · subst d2; rw [if_pos rfl]
    exact does_un gv lv gr lr _ _ _ _ _ _ A ls.length c r wr x w h1 h1' h2 h2' h3 h3' h4 h4' n12 n13 n14 n23 n24 n34 (nf s.xs) (by have := nf_length s.xs; omega)
      (Lib.hid (fun W q4 q5 q6 q7 => vunload_c n gv lv s h n12 W q6 q7 q4 q5))
      (Lib.hid (fun W q4 q5 q6 q7 => runload'_c n gr lr s h n34 W q6 q7 q4 q5))
  rw [if_neg d2]
  by_cases d3 : d = 3
  · subst d3; rw [if_pos rfl]
    exact does_do gv lv gr lr _ _ _ _ _ _ A ls.length c r wr x w h1 h1' h2 h2' h3 h3' h4 h4' n12 n13 n14 n23 n24 n34 _ _ _ _
      (Lib.hid (fun W q4 q5 q6 q7 => vdo_c n gv lv s h n12 W q6 q7 q4 q5 r wr x))
      (Lib.hid (fun W q4 q5 q6 q7 => rdo_c n gr lr s h n34 W q6 q7 q4 q5 r wr x hx0 hx1))
  rw [if_neg d3]
  exact does_other gv lv gr lr _ _ _ d A ls.length c r wr x w h1 h1' h2 h2' h3 h3' h4 h4' n12 n13 n14 n23 n24 n34 (nbeq d1) (nbeq d2) (nbeq d3)
/-- each element of a list satisfies p -/
def allL (p : S54 → Prop) (xs : List S54) : Prop := ∀ k : Nat, k < xs.length → p (rd_T54 xs k)
theorem rd_set (xs : List S54) (k j : Nat) (e : S54) (hj : j < xs.length) : rd_T54 (xs.set k e) j = if j = k then e else rd_T54 xs j := by
  unfold rd_T54
  simp only [Int.toNat_natCast, List.getD_eq_getElem?_getD, List.getElem?_set]
  by_cases hjk : k = j
  · subst hjk; simp [hj]
  · rw [if_neg hjk, if_neg (fun e => hjk e.symm)]
theorem allL_set {p : S54 → Prop} {xs : List S54} (h : allL p xs) (k : Nat) (e : S54) (he : p e) : allL p (xs.set k e) := fun j hj => by
  rw [List.length_set] at hj
  rw [rd_set xs k j e hj]
  split
  · exact he
  · exact h j hj
theorem stOk_set {xs : List S54} (h : stOk xs) (k : Nat) (st : Int) (hs : st ≤ 3) : stOk (setSt xs k st) := allL_set (p := fun e => e.f0 ≤ 3) h k _ hs
theorem ackXs_length (m p0 p1 : Int) (o0 o1 : Bool) (a b : Int) (xs : List S54) (gp : Int) : (ackXs m p0 p1 o0 o1 a b xs gp).length = xs.length := by unfold ackXs; split <;> simp [setSt_length]
theorem endXs_length (xs : List S54) (id : Int) : (endXs xs id).length = xs.length := by unfold endXs; split <;> simp [setSt_length]
theorem gXs_length (id : Int) (xs : List S54) (go : Bool) : (gXs id xs go).length = xs.length := by unfold gXs; split <;> simp [endXs_length]
theorem ackXs_st (m p0 p1 : Int) (o0 o1 : Bool) (a b : Int) (xs : List S54) (gp : Int) (h : stOk xs) : stOk (ackXs m p0 p1 o0 o1 a b xs gp) := by
  unfold ackXs
  split
  · exact stOk_set h _ _ (by split <;> omega)
  · exact h
theorem endXs_st (xs : List S54) (id : Int) (h : stOk xs) : stOk (endXs xs id) := by
  unfold endXs
  split
  · refine stOk_set h _ _ ?_
    rcases find_range xs id with hf | ⟨k, hf, hk, _⟩
    · rename_i hok; unfold endOk at hok; rw [hf] at hok; simp at hok
    · rw [hf]; have := h k hk; omega
  · exact h
theorem gXs_st (id : Int) (xs : List S54) (go : Bool) (h : stOk xs) : stOk (gXs id xs go) := by
  unfold gXs; split
  · exact endXs_st xs id h
  · exact h
theorem gLost_bd (id : Int) (xs : List S54) (go : Bool) (lost : Int) : lost ≤ gLost id xs go lost ∧ gLost id xs go lost ≤ lost + 1 := by
  unfold gLost endLost
  split
  · split
    · omega
    · split <;> omega
  · omega
theorem rep_st (n : Nat) : stOk (List.replicate n z54) := fun k hk => by
  have : rd_T54 (List.replicate n z54) k = z54 := by
    unfold rd_T54
    rw [List.getD_eq_getElem?_getD, List.getElem?_replicate]; split <;> rfl
  rw [this]; decide
theorem good_st {ls : List S54} (h : goodL ls) : stOk ls := fun k hk => by
  have : okS (rd_T54 ls k) := Classical.not_not.1 fun hn => h ⟨k, hk, .inl hn⟩
  exact this.1.2.1
theorem rd_app_lo (xs ys : List S54) (k : Nat) (h : k < xs.length) : rd_T54 (xs ++ ys) k = rd_T54 xs k := by
  unfold rd_T54; simp only [Int.toNat_natCast, List.getD_eq_getElem?_getD]; rw [List.getElem?_append_left h]
theorem rd_app_hi (xs ys : List S54) (k : Nat) (h : xs.length ≤ k) : rd_T54 (xs ++ ys) k = rd_T54 ys (k - xs.length : Nat) := by
  unfold rd_T54; simp only [Int.toNat_natCast, List.getD_eq_getElem?_getD]; rw [List.getElem?_append_right h]
theorem app_all {p : S54 → Prop} {xs ys : List S54} (h1 : allL p xs) (h2 : allL p ys) : allL p (xs ++ ys) := fun k hk => by
  rw [List.length_append] at hk
  rcases Nat.lt_or_ge k xs.length with h | h
  · rw [rd_app_lo xs ys k h]; exact h1 k h
  · rw [rd_app_hi xs ys k h]; exact h2 _ (by omega)
theorem loadXs_st (n : Nat) (xs ls : List S54) (h : stOk xs) : stOk (loadXs n xs ls) := by
  unfold loadXs
  split
  · exact h
  · split
    · rename_i hg
      exact app_all (p := fun e => e.f0 ≤ 3) (good_st hg) (rep_st _)
    · exact h
theorem loadXs_length (n : Nat) (xs ls : List S54) (h : xs.length = n) : (loadXs n xs ls).length = n := by
  unfold loadXs
  split
  · exact h
  · split
    · exact tgt_length ls n (by omega)
    · exact h
theorem doV_ok (n : Nat) (s : VS) (h : SOk n s) (r : Int) (wr : Bool) (x : Int) :
    (doV s r wr x).1.xs.length = n ∧ stOk (doV s r wr x).1.xs ∧ s.lost ≤ (doV s r wr x).1.lost ∧ (doV s r wr x).1.lost ≤ s.lost + 1 := by
  have same : s.xs.length = n ∧ stOk s.xs ∧ s.lost ≤ s.lost ∧ s.lost ≤ s.lost + 1 := ⟨h.len, h.st, by omega, by omega⟩
  have ack : ∀ gp, (ackS s gp).xs.length = n ∧ stOk (ackS s gp).xs ∧ s.lost ≤ (ackS s gp).lost ∧ (ackS s gp).lost ≤ s.lost + 1 := fun gp =>
    ⟨(ackXs_length _ _ _ _ _ _ _ _ _).trans h.len, ackXs_st _ _ _ _ _ _ _ _ _ h.st, Int.le_refl _, by show s.lost ≤ s.lost + 1; omega⟩
  have eoi : ∀ gp id, (eoiS s gp id).xs.length = n ∧ stOk (eoiS s gp id).xs ∧ s.lost ≤ (eoiS s gp id).lost ∧ (eoiS s gp id).lost ≤ s.lost + 1 := fun gp id =>
    ⟨(gXs_length _ _ _).trans h.len, gXs_st _ _ _ h.st, (gLost_bd _ _ _ _).1, (gLost_bd _ _ _ _).2⟩
  have dir : ∀ id, (dirS s id).xs.length = n ∧ stOk (dirS s id).xs ∧ s.lost ≤ (dirS s id).lost ∧ (dirS s id).lost ≤ s.lost + 1 := fun id =>
    ⟨(gXs_length _ _ _).trans h.len, gXs_st _ _ _ h.st, (gLost_bd _ _ _ _).1, (gLost_bd _ _ _ _).2⟩
  unfold doV
  split
  · split
    · exact ack 0
    · split
      · exact ack 1
      · split
        · exact same
        · split <;> exact same
  · split
    · exact eoi 0 _
    · split
      · exact eoi 1 _
      · split
        · exact dir _
        · exact same
theorem actS_ok (n : Nat) (s : VS) (h : SOk n s) (hl : s.lost + 1 ≤ 4611686018427387904) (d : Int) (ls : List S54) (r : Int) (wr : Bool) (x : Int) : SOk n (actS n s d ls r wr x) ∧ (actS n s d ls r wr x).lost ≤ s.lost + 1 := by
  have lo := h.lo
  unfold actS
  split
  · exact ⟨⟨loadXs_length n _ _ h.len, h.n16, h.n0, loadXs_st n _ _ h.st, h.lo, h.hi⟩, by show s.lost ≤ s.lost + 1; omega⟩
  · split
    · exact ⟨⟨by simp [freeS], h.n16, h.n0, rep_st n, h.lo, h.hi⟩, by show s.lost ≤ s.lost + 1; omega⟩
    · split
      · obtain ⟨q1, q2, q3, q4⟩ := doV_ok n s h r wr x
        exact ⟨⟨q1, h.n16, h.n0, q2, by omega, by omega⟩, q4⟩
      · exact ⟨h, by omega⟩
end Go.Proofs.Ytkbaghblchlcnaa.Lr
namespace Go.Proofs.Ytkbaghblchlcnaa.Lr
open Go.RowKit Go.Shelf Go.Proofs.YtkbaghblchlcnaaW.PrintWords Go.Proofs.Ytkbaghblchlcnaa.IAll
theorem mkL (n : Nat) (h1 : 1 ≤ n) (h2 : n ≤ 16) (w : World) : (Instr.makeSlice 22 (.int .i64 (n : Int)) (.int .i64 (n : Int))).run Try.prog w = .ok (.slice (some ⟨w.heap.size, 0, none⟩) n n) (w.alloc (.cells (FA (List.replicate n z54)) 54)) := by
  rcases (show n = 1 ∨ n = 2 ∨ n = 3 ∨ n = 4 ∨ n = 5 ∨ n = 6 ∨ n = 7 ∨ n = 8 ∨ n = 9 ∨ n = 10 ∨ n = 11 ∨ n = 12 ∨ n = 13 ∨ n = 14 ∨ n = 15 ∨ n = 16 by omega) with rfl | rfl | rfl | rfl | rfl | rfl | rfl | rfl | rfl | rfl | rfl | rfl | rfl | rfl | rfl | rfl <;> kernel_rfl
attribute [local go_sem] Oper.semAt_some cell_row frozen_row isRow_setCell_eq rowAt_setCell_same rowAt_setCell_other isRow_alloc_eq rowAt_alloc rowAt_new rowAt_new' isRow_setRow_eq rowAt_setRow_same rowAt_setRow_other isRow_drew rowAt_drew size_setRow_ Lb_size Lb_at blk_ptr aggOf_agg below_alloc_e below_setCell_e below_setRow_e below_refl_e below_drew_r aside2_alloc_e aside2_setCell_e aside2_setRow_e aside2_drew_e aside2_refl_e aside2_drewN_e isRow_drewN rowAt_drewN below_drewN_e le_add_r offv_ptr one_lad zero_lad allOne_nil allOne_cons Value.oneCell' addr_at FA_size one_FA asideP_alloc_e asideP_setCell_e asideP_setRow_e asideP_drew_e asideP_drewN_e asideP_refl_e in4a in4b in4c in4d
attribute [local go_sem ↓] storeI storeC storeE storeLm
attribute [local go_sem] eq2i eq2b eq2u
set_option maxRecDepth 100000
theorem VNew_c (n : Nat) (h1 : 1 ≤ n) (h2 : n ≤ 16) (w : World) : Calls Try.prog 12 #[.int .i64 (n : Int)] w fun e w' => e = .returned (.tuple #[.pointer (some ⟨w.heap.size + 1, 0, none⟩), .int .i64 0]) ∧ Row w' (w.heap.size + 1) (vrow n w.heap.size ⟨0, 0, 0, false, false, false, 0, 0, List.replicate n z54, 0⟩) ∧ Row w' w.heap.size (FA (List.replicate n z54)) ∧ Below w.heap.size w w' := by
  have hB := Below.refl w.heap.size w
  have hm := fun w => mkL n h1 h2 w
  have e1 : ¬ (n : Int) < 1 := by omega
  have e2 : ¬ (16 : Int) < n := by omega
  go_enter Try.func12, Try.ntmps12
  go_wp2
  go_ret2
  exact ⟨rfl, ⟨by go_simp, by unfold vrow; go_simp⟩, ⟨by go_simp, by go_simp⟩, by go_simp⟩
end Go.Proofs.Ytkbaghblchlcnaa.Lr
