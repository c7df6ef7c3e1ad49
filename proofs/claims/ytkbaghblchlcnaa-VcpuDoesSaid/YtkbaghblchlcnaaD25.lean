/- Texts of this claim, put together: Uj, Vw. -/
import Derived.Test.YtkbaghblchlcnaaD24
import Derived.Deep.RegionHeld3
import Derived.Deep.RegionWith
import Derived.RegionTactic
import Derived.ChangeAlike
import Derived.Test.YtkbaghblchlcnaaD23
namespace Go.Proofs.Ytkbaghblchlcnaa.Lr.Wd
open Go.RowKit Go.Shelf Go.Proofs.YtkbaghblchlcnaaW.PrintWords Go.Proofs.Ytkbaghblchlcnaa.IAll
attribute [local go_sem] Oper.semAt_some cell_row frozen_row isRow_setCell_eq rowAt_setCell_same rowAt_setCell_other isRow_alloc_eq rowAt_alloc rowAt_new rowAt_new' isRow_setRow_eq rowAt_setRow_same rowAt_setRow_other isRow_drew rowAt_drew size_setRow_ Lb_size Lb_at blk_ptr aggOf_agg below_alloc_e below_setCell_e below_setRow_e below_refl_e below_drew_r aside2_alloc_e aside2_setCell_e aside2_setRow_e aside2_drew_e aside2_refl_e aside2_drewN_e isRow_drewN rowAt_drewN below_drewN_e le_add_r offv_ptr one_lad zero_lad allOne_nil allOne_cons Value.oneCell' addr_at FA_size one_FA
attribute [local go_sem ↓] storeI storeC storeE
attribute [local go_sem] eq2i eq2b eq2u
set_option maxRecDepth 100000 in
set_option maxHeartbeats 4000000 in
theorem do_a0 (g bl : Nat) (m p0 p1 : Int) (o0 o1 sp : Bool) (a b : Int) (n cc : Nat) (C : Array Value) (lost : Int) (m' p0' p1' : Int) (o0' o1' sp' : Bool) (a' b' : Int) (C' : Array Value) (lost' : Int) (w : World) (hr : isRow w g) (hr' : rowAt w g = #[.int .i64 m, .int .i64 p0, .int .i64 p1, .bool o0, .bool o1, .bool sp, .int .u32 a, .int .u32 b, .slice (some ⟨bl, 0, none⟩) n cc, .int .i64 lost]) (hl : isRow w bl) (hl' : rowAt w bl = C) (hne : ¬ g = bl) (hne' : ¬ bl = g) (x y : Int) (hy : bits .and .u64 x 16777215 = y) (y0 : 0 ≤ y) (y1 : y ≤ 16777215) (id : Int) (HA : Hid (∀ W : World, isRow W g → rowAt W g = #[.int .i64 m, .int .i64 p0, .int .i64 p1, .bool o0, .bool o1, .bool sp, .int .u32 a, .int .u32 b, .slice (some ⟨bl, 0, none⟩) n cc, .int .i64 lost] → isRow W bl → rowAt W bl = C → Calls Try.prog 17 #[.pointer (some ⟨g, 0, none⟩), .int .i64 0] W fun e w' => e = .returned (.int .i64 id) ∧ Row w' g #[.int .i64 m', .int .i64 p0', .int .i64 p1', .bool o0', .bool o1', .bool sp', .int .u32 a', .int .u32 b', .slice (some ⟨bl, 0, none⟩) n cc, .int .i64 lost'] ∧ Row w' bl C' ∧ Aside2 g bl W w')) :
    Calls Try.prog 28 #[.pointer (some ⟨g, 0, none⟩), .int .i64 1, .bool false, .int .u64 x] w fun e w' => e = .returned (.tuple #[.int .u64 (IntKind.u64.wrap id), .agg #[.bool false, .int .i64 (-1)], .bool true]) ∧ Row w' g #[.int .i64 m', .int .i64 p0', .int .i64 p1', .bool o0', .bool o1', .bool sp', .int .u32 a', .int .u32 b', .slice (some ⟨bl, 0, none⟩) n cc, .int .i64 lost'] ∧ Row w' bl C' ∧ Aside2 g bl w w' := by
  have _u : True := by have _ := hne; have _ := hne'; have _ := y0; have _ := y1; trivial
  clear _u
  have hX : Aside2 g bl w w := .of_below (Below.refl _ _)
  have lr := hr.lt
  have ll := hl.lt
  have nr : ¬ g = w.heap.size := by omega
  have rn : ¬ w.heap.size = g := by omega
  have nl : ¬ bl = w.heap.size := by omega
  have ln : ¬ w.heap.size = bl := by omega
  have nr1 : ¬ g = w.heap.size + 1 := by omega
  have rn1 : ¬ w.heap.size + 1 = g := by omega
  have nl1 : ¬ bl = w.heap.size + 1 := by omega
  have ln1 : ¬ w.heap.size + 1 = bl := by omega
  have hB_0 : Below w.heap.size w w := Below.refl _ _
  have ne_V_E : ¬ g = w.heap.size := by omega
  have en_V_E : ¬ w.heap.size = g := by omega
  have ne_L_E : ¬ bl = w.heap.size := by omega
  have en_L_E : ¬ w.heap.size = bl := by omega
  have ne_V_N : ¬ g = (w.heap.size + 1) := by omega
  have en_V_N : ¬ (w.heap.size + 1) = g := by omega
  have ne_L_N : ¬ bl = (w.heap.size + 1) := by omega
  have en_L_N : ¬ (w.heap.size + 1) = bl := by omega
  have ne_E_N : ¬ w.heap.size = (w.heap.size + 1) := by omega
  have en_E_N : ¬ (w.heap.size + 1) = w.heap.size := by omega
  go_enter Try.func28, Try.ntmps28
  go_wp2_with fail
  refine wp_named (fun W_ => (isRow W_ g ∧ rowAt W_ g = #[.int .i64 m, .int .i64 p0, .int .i64 p1, .bool o0, .bool o1, .bool sp, .int .u32 a, .int .u32 b, .slice (some ⟨bl, 0, none⟩) n cc, .int .i64 lost]) ∧ (isRow W_ bl ∧ rowAt W_ bl = C) ∧ (isRow W_ w.heap.size ∧ rowAt W_ w.heap.size = #[.bool false, .int .i64 0]) ∧ (isRow W_ (w.heap.size + 1) ∧ rowAt W_ (w.heap.size + 1) = #[.bool false, .int .i64 (-1)]) ∧ Aside2 g bl w W_) (by refine ⟨⟨by go_simp, by go_simp⟩, ⟨by go_simp, by go_simp⟩, ⟨by go_simp, by go_simp⟩, ⟨by go_simp, by go_simp⟩, by go_simp⟩) ?_
  rintro v1 ⟨⟨V_1, V_1'⟩, ⟨L_1, L_1'⟩, ⟨E_1, E_1'⟩, ⟨N_1, N_1'⟩, hB_1⟩
  clear hr hr' hl hl' hX
  have hz_1 : w.heap.size ≤ v1.heap.size := hB_1.size
  have hl_V_1 := isRow.lt V_1
  have hl_L_1 := isRow.lt L_1
  have hl_E_1 := isRow.lt E_1
  have hl_N_1 := isRow.lt N_1
  refine wp_region_held_drew (S := fun w' => (isRow w' w.heap.size ∧ (rowAt w' w.heap.size).size = 2) ∧ (isRow w' (w.heap.size + 1) ∧ rowAt w' (w.heap.size + 1) = #[.bool false, .int .i64 (-1)]) ∧ Aside2 g bl w w') (by kernel_rfl) ⟨⟨by go_simp, by go_simp⟩, ⟨by go_simp, by go_simp⟩, by go_simp⟩ (fun hHeld => ?_)
  refine wpAnyH_take (i := 0) (oi := ⟨some 26, .move (.tmp 0), 24, "vcpu.go:161", #[], none⟩) (v := ?_) rfl (by kernel_rfl) (by kernel_rfl) (by kernel_rfl) (fun _ _ _ h => h) (Or.inl ⟨by rfl, ?_⟩) (by assumption) ?_
  rotate_left
  · (intro w_ hS_; (try dsimp only at hS_); go_simp; try with_reducible rfl)
  try simp only [Act.put, List.setIfInBounds_toArray, List.set_cons_zero, List.set_cons_succ]
  refine wpAnyH_take (i := 3) (oi := ⟨some 29, .load 57 (.tmp 11), 57, "vcpu.go:161", #[⟨4, .gcOnly .lateStores⟩], none⟩) (v := ?_) rfl (by kernel_rfl) (by kernel_rfl) (by kernel_rfl) (fun _ _ _ h => h) (Or.inl ⟨by rfl, ?_⟩) (by assumption) ?_
  rotate_left
  · (intro w_ hS_; (try dsimp only at hS_); go_simp; try with_reducible rfl)
  try simp only [Act.put, List.setIfInBounds_toArray, List.set_cons_zero, List.set_cons_succ]
  refine wpAnyH_ready (rs := [1]) (by kernel_rfl) (by simp) ?_
  refine AllReadyH.cons (o := ⟨some 27, .call ⟨.value (.func 17), #[.tmp 26, .const (.int .i64 0)], #[24, 3]⟩, 3, "vcpu.go:161", #[⟨0, .data⟩], none⟩) rfl (fun K hK => ?_) AllReadyH.nil
  (have hq_ := hHeld; (try dsimp only at hq_))
  obtain ⟨⟨PE_2_1, PE_2_1'⟩, ⟨PN_2_1, PN_2_1'⟩, hF_2_1⟩ := hq_
  go_simp
  refine (HA.out _ (by go_simp) (by go_simp) (by go_simp) (by go_simp)).mono ?_
  rintro e u2_1 ⟨rfl, ⟨V_2_1, V_2_1'⟩, ⟨L_2_1, L_2_1'⟩, hA2_1⟩
  refine hK.out _ _ ?_ (fun hHeld => ?_)
  · exact ⟨⟨(hA2_1.row ⟨PE_2_1, rfl⟩ (by omega) (by omega)).1, by rw [(hA2_1.row ⟨PE_2_1, rfl⟩ (by omega) (by omega)).2]; exact PE_2_1'⟩, ⟨(hA2_1.row ⟨PN_2_1, rfl⟩ (by omega) (by omega)).1, by rw [(hA2_1.row ⟨PN_2_1, rfl⟩ (by omega) (by omega)).2]; exact PN_2_1'⟩, Aside2.trans hF_2_1 hA2_1⟩
  clear hK K
  try simp only [Act.put, List.setIfInBounds_toArray, List.set_cons_zero, List.set_cons_succ]
  refine wpAnyH_take (i := 2) (oi := ⟨some 28, .convert 3 67 (.tmp 27), 67, "vcpu.go:161", #[⟨1, .data⟩], none⟩) (v := ?_) rfl (by kernel_rfl) (by kernel_rfl) (by kernel_rfl) (fun _ _ _ h => h) (Or.inl ⟨by rfl, ?_⟩) (by assumption) ?_
  rotate_left
  · (intro w_ hS_; (try dsimp only at hS_); go_simp; try with_reducible rfl)
  try simp only [Act.put, List.setIfInBounds_toArray, List.set_cons_zero, List.set_cons_succ]
  refine wpAnyH_take (i := 4) (oi := ⟨some 8, .assign (.tmp 28), 67, "vcpu.go:161", #[⟨2, .data⟩, ⟨1, .chain⟩, ⟨0, .phase⟩, ⟨1, .phase⟩, ⟨2, .phase⟩, ⟨3, .textOnly .lateStores⟩], none⟩) (v := ?_) rfl (by kernel_rfl) (by kernel_rfl) (by kernel_rfl) (fun _ _ _ h => h) (Or.inl ⟨by rfl, ?_⟩) (by assumption) ?_
  rotate_left
  · (intro w_ hS_; (try dsimp only at hS_); go_simp; try with_reducible rfl)
  try simp only [Act.put, List.setIfInBounds_toArray, List.set_cons_zero, List.set_cons_succ]
  refine wpAnyH_ready (rs := [5]) (by kernel_rfl) (by simp) ?_
  refine AllReadyH.cons (o := ⟨none, .store 57 (.tmp 9) (.tmp 29), 0, "vcpu.go:161", #[⟨3, .data⟩, ⟨4, .chain⟩, ⟨0, .phase⟩, ⟨1, .phase⟩, ⟨2, .phase⟩, ⟨3, .phase⟩, ⟨4, .phase⟩], none⟩) rfl (fun K hK => ?_) AllReadyH.nil
  (have hq_ := hHeld; (try dsimp only at hq_))
  obtain ⟨⟨PE_2_2, PE_2_2'⟩, ⟨PN_2_2, PN_2_2'⟩, hF_2_2⟩ := hq_
  go_simp
  refine hK.out _ _ ?_ (fun hHeld => ?_)
  · (refine ⟨⟨by go_simp, by go_simp⟩, ⟨by go_simp, by go_simp⟩, by go_simp⟩)
  clear hK K
  try simp only [Act.put, List.setIfInBounds_toArray, List.set_cons_zero, List.set_cons_succ]
  refine wpAnyH_take (i := 6) (oi := ⟨some 10, .assign (.const (.bool true)), 4, "vcpu.go:161", #[⟨5, .chain⟩, ⟨0, .phase⟩, ⟨1, .phase⟩, ⟨2, .phase⟩, ⟨3, .phase⟩, ⟨4, .phase⟩, ⟨5, .phase⟩], none⟩) (v := ?_) rfl (by kernel_rfl) (by kernel_rfl) (by kernel_rfl) (fun _ _ _ h => h) (Or.inl ⟨by rfl, ?_⟩) (by assumption) ?_
  rotate_left
  · (intro w_ hS_; (try dsimp only at hS_); go_simp; try with_reducible rfl)
  try simp only [Act.put, List.setIfInBounds_toArray, List.set_cons_zero, List.set_cons_succ]
  refine wpAnyH_done (by kernel_rfl) ?_ _
  (try dsimp only at hHeld)
  go_split_ands
  go_wp2
  exact bodyPost_ret (resD _ rfl _ _ (x := false) (y := (-1)) (g := w.heap.size) rfl ⟨by go_simp, by go_simp⟩ rfl rfl) rfl ⟨rfl, ⟨by go_simp, by go_simp⟩, ⟨by go_simp, by go_simp⟩, by go_simp⟩
set_option maxRecDepth 100000 in
set_option maxHeartbeats 4000000 in
theorem do_a1 (g bl : Nat) (m p0 p1 : Int) (o0 o1 sp : Bool) (a b : Int) (n cc : Nat) (C : Array Value) (lost : Int) (m' p0' p1' : Int) (o0' o1' sp' : Bool) (a' b' : Int) (C' : Array Value) (lost' : Int) (w : World) (hr : isRow w g) (hr' : rowAt w g = #[.int .i64 m, .int .i64 p0, .int .i64 p1, .bool o0, .bool o1, .bool sp, .int .u32 a, .int .u32 b, .slice (some ⟨bl, 0, none⟩) n cc, .int .i64 lost]) (hl : isRow w bl) (hl' : rowAt w bl = C) (hne : ¬ g = bl) (hne' : ¬ bl = g) (x y : Int) (hy : bits .and .u64 x 16777215 = y) (y0 : 0 ≤ y) (y1 : y ≤ 16777215) (id : Int) (HA : Hid (∀ W : World, isRow W g → rowAt W g = #[.int .i64 m, .int .i64 p0, .int .i64 p1, .bool o0, .bool o1, .bool sp, .int .u32 a, .int .u32 b, .slice (some ⟨bl, 0, none⟩) n cc, .int .i64 lost] → isRow W bl → rowAt W bl = C → Calls Try.prog 17 #[.pointer (some ⟨g, 0, none⟩), .int .i64 1] W fun e w' => e = .returned (.int .i64 id) ∧ Row w' g #[.int .i64 m', .int .i64 p0', .int .i64 p1', .bool o0', .bool o1', .bool sp', .int .u32 a', .int .u32 b', .slice (some ⟨bl, 0, none⟩) n cc, .int .i64 lost'] ∧ Row w' bl C' ∧ Aside2 g bl W w')) :
    Calls Try.prog 28 #[.pointer (some ⟨g, 0, none⟩), .int .i64 2, .bool false, .int .u64 x] w fun e w' => e = .returned (.tuple #[.int .u64 (IntKind.u64.wrap id), .agg #[.bool false, .int .i64 (-1)], .bool true]) ∧ Row w' g #[.int .i64 m', .int .i64 p0', .int .i64 p1', .bool o0', .bool o1', .bool sp', .int .u32 a', .int .u32 b', .slice (some ⟨bl, 0, none⟩) n cc, .int .i64 lost'] ∧ Row w' bl C' ∧ Aside2 g bl w w' := by
  have _u : True := by have _ := hne; have _ := hne'; have _ := y0; have _ := y1; trivial
  clear _u
  have hX : Aside2 g bl w w := .of_below (Below.refl _ _)
  have lr := hr.lt
  have ll := hl.lt
  have nr : ¬ g = w.heap.size := by omega
  have rn : ¬ w.heap.size = g := by omega
  have nl : ¬ bl = w.heap.size := by omega
  have ln : ¬ w.heap.size = bl := by omega
  have nr1 : ¬ g = w.heap.size + 1 := by omega
  have rn1 : ¬ w.heap.size + 1 = g := by omega
  have nl1 : ¬ bl = w.heap.size + 1 := by omega
  have ln1 : ¬ w.heap.size + 1 = bl := by omega
  have hB_0 : Below w.heap.size w w := Below.refl _ _
  have ne_V_E : ¬ g = w.heap.size := by omega
  have en_V_E : ¬ w.heap.size = g := by omega
  have ne_L_E : ¬ bl = w.heap.size := by omega
  have en_L_E : ¬ w.heap.size = bl := by omega
  have ne_V_N : ¬ g = (w.heap.size + 1) := by omega
  have en_V_N : ¬ (w.heap.size + 1) = g := by omega
  have ne_L_N : ¬ bl = (w.heap.size + 1) := by omega
  have en_L_N : ¬ (w.heap.size + 1) = bl := by omega
  have ne_E_N : ¬ w.heap.size = (w.heap.size + 1) := by omega
  have en_E_N : ¬ (w.heap.size + 1) = w.heap.size := by omega
  go_enter Try.func28, Try.ntmps28
  go_wp2_with fail
  refine wp_named (fun W_ => (isRow W_ g ∧ rowAt W_ g = #[.int .i64 m, .int .i64 p0, .int .i64 p1, .bool o0, .bool o1, .bool sp, .int .u32 a, .int .u32 b, .slice (some ⟨bl, 0, none⟩) n cc, .int .i64 lost]) ∧ (isRow W_ bl ∧ rowAt W_ bl = C) ∧ (isRow W_ w.heap.size ∧ rowAt W_ w.heap.size = #[.bool false, .int .i64 0]) ∧ (isRow W_ (w.heap.size + 1) ∧ rowAt W_ (w.heap.size + 1) = #[.bool false, .int .i64 (-1)]) ∧ Aside2 g bl w W_) (by refine ⟨⟨by go_simp, by go_simp⟩, ⟨by go_simp, by go_simp⟩, ⟨by go_simp, by go_simp⟩, ⟨by go_simp, by go_simp⟩, by go_simp⟩) ?_
  rintro v1 ⟨⟨V_1, V_1'⟩, ⟨L_1, L_1'⟩, ⟨E_1, E_1'⟩, ⟨N_1, N_1'⟩, hB_1⟩
  clear hr hr' hl hl' hX
  have hz_1 : w.heap.size ≤ v1.heap.size := hB_1.size
  have hl_V_1 := isRow.lt V_1
  have hl_L_1 := isRow.lt L_1
  have hl_E_1 := isRow.lt E_1
  have hl_N_1 := isRow.lt N_1
  refine wp_region_held_drew (S := fun w' => (isRow w' w.heap.size ∧ (rowAt w' w.heap.size).size = 2) ∧ (isRow w' (w.heap.size + 1) ∧ rowAt w' (w.heap.size + 1) = #[.bool false, .int .i64 (-1)]) ∧ Aside2 g bl w w') (by kernel_rfl) ⟨⟨by go_simp, by go_simp⟩, ⟨by go_simp, by go_simp⟩, by go_simp⟩ (fun hHeld => ?_)
  refine wpAnyH_take (i := 0) (oi := ⟨some 37, .move (.tmp 0), 24, "vcpu.go:163", #[], none⟩) (v := ?_) rfl (by kernel_rfl) (by kernel_rfl) (by kernel_rfl) (fun _ _ _ h => h) (Or.inl ⟨by rfl, ?_⟩) (by assumption) ?_
  rotate_left
  · (intro w_ hS_; (try dsimp only at hS_); go_simp; try with_reducible rfl)
  try simp only [Act.put, List.setIfInBounds_toArray, List.set_cons_zero, List.set_cons_succ]
  refine wpAnyH_take (i := 3) (oi := ⟨some 40, .load 57 (.tmp 11), 57, "vcpu.go:163", #[⟨4, .gcOnly .lateStores⟩], none⟩) (v := ?_) rfl (by kernel_rfl) (by kernel_rfl) (by kernel_rfl) (fun _ _ _ h => h) (Or.inl ⟨by rfl, ?_⟩) (by assumption) ?_
  rotate_left
  · (intro w_ hS_; (try dsimp only at hS_); go_simp; try with_reducible rfl)
  try simp only [Act.put, List.setIfInBounds_toArray, List.set_cons_zero, List.set_cons_succ]
  refine wpAnyH_ready (rs := [1]) (by kernel_rfl) (by simp) ?_
  refine AllReadyH.cons (o := ⟨some 38, .call ⟨.value (.func 17), #[.tmp 37, .const (.int .i64 1)], #[24, 3]⟩, 3, "vcpu.go:163", #[⟨0, .data⟩], none⟩) rfl (fun K hK => ?_) AllReadyH.nil
  (have hq_ := hHeld; (try dsimp only at hq_))
  obtain ⟨⟨PE_2_1, PE_2_1'⟩, ⟨PN_2_1, PN_2_1'⟩, hF_2_1⟩ := hq_
  go_simp
  refine (HA.out _ (by go_simp) (by go_simp) (by go_simp) (by go_simp)).mono ?_
  rintro e u2_1 ⟨rfl, ⟨V_2_1, V_2_1'⟩, ⟨L_2_1, L_2_1'⟩, hA2_1⟩
  refine hK.out _ _ ?_ (fun hHeld => ?_)
  · exact ⟨⟨(hA2_1.row ⟨PE_2_1, rfl⟩ (by omega) (by omega)).1, by rw [(hA2_1.row ⟨PE_2_1, rfl⟩ (by omega) (by omega)).2]; exact PE_2_1'⟩, ⟨(hA2_1.row ⟨PN_2_1, rfl⟩ (by omega) (by omega)).1, by rw [(hA2_1.row ⟨PN_2_1, rfl⟩ (by omega) (by omega)).2]; exact PN_2_1'⟩, Aside2.trans hF_2_1 hA2_1⟩
  clear hK K
  try simp only [Act.put, List.setIfInBounds_toArray, List.set_cons_zero, List.set_cons_succ]
  refine wpAnyH_take (i := 2) (oi := ⟨some 39, .convert 3 67 (.tmp 38), 67, "vcpu.go:163", #[⟨1, .data⟩], none⟩) (v := ?_) rfl (by kernel_rfl) (by kernel_rfl) (by kernel_rfl) (fun _ _ _ h => h) (Or.inl ⟨by rfl, ?_⟩) (by assumption) ?_
  rotate_left
  · (intro w_ hS_; (try dsimp only at hS_); go_simp; try with_reducible rfl)
  try simp only [Act.put, List.setIfInBounds_toArray, List.set_cons_zero, List.set_cons_succ]
  refine wpAnyH_take (i := 4) (oi := ⟨some 8, .assign (.tmp 39), 67, "vcpu.go:163", #[⟨2, .data⟩, ⟨1, .chain⟩, ⟨0, .phase⟩, ⟨1, .phase⟩, ⟨2, .phase⟩, ⟨3, .textOnly .lateStores⟩], none⟩) (v := ?_) rfl (by kernel_rfl) (by kernel_rfl) (by kernel_rfl) (fun _ _ _ h => h) (Or.inl ⟨by rfl, ?_⟩) (by assumption) ?_
  rotate_left
  · (intro w_ hS_; (try dsimp only at hS_); go_simp; try with_reducible rfl)
  try simp only [Act.put, List.setIfInBounds_toArray, List.set_cons_zero, List.set_cons_succ]
  refine wpAnyH_ready (rs := [5]) (by kernel_rfl) (by simp) ?_
  refine AllReadyH.cons (o := ⟨none, .store 57 (.tmp 9) (.tmp 40), 0, "vcpu.go:163", #[⟨3, .data⟩, ⟨4, .chain⟩, ⟨0, .phase⟩, ⟨1, .phase⟩, ⟨2, .phase⟩, ⟨3, .phase⟩, ⟨4, .phase⟩], none⟩) rfl (fun K hK => ?_) AllReadyH.nil
  (have hq_ := hHeld; (try dsimp only at hq_))
  obtain ⟨⟨PE_2_2, PE_2_2'⟩, ⟨PN_2_2, PN_2_2'⟩, hF_2_2⟩ := hq_
  go_simp
  refine hK.out _ _ ?_ (fun hHeld => ?_)
  · (refine ⟨⟨by go_simp, by go_simp⟩, ⟨by go_simp, by go_simp⟩, by go_simp⟩)
  clear hK K
  try simp only [Act.put, List.setIfInBounds_toArray, List.set_cons_zero, List.set_cons_succ]
  refine wpAnyH_take (i := 6) (oi := ⟨some 10, .assign (.const (.bool true)), 4, "vcpu.go:163", #[⟨5, .chain⟩, ⟨0, .phase⟩, ⟨1, .phase⟩, ⟨2, .phase⟩, ⟨3, .phase⟩, ⟨4, .phase⟩, ⟨5, .phase⟩], none⟩) (v := ?_) rfl (by kernel_rfl) (by kernel_rfl) (by kernel_rfl) (fun _ _ _ h => h) (Or.inl ⟨by rfl, ?_⟩) (by assumption) ?_
  rotate_left
  · (intro w_ hS_; (try dsimp only at hS_); go_simp; try with_reducible rfl)
  try simp only [Act.put, List.setIfInBounds_toArray, List.set_cons_zero, List.set_cons_succ]
  refine wpAnyH_done (by kernel_rfl) ?_ _
  (try dsimp only at hHeld)
  go_split_ands
  go_wp2
  exact bodyPost_ret (resD _ rfl _ _ (x := false) (y := (-1)) (g := w.heap.size) rfl ⟨by go_simp, by go_simp⟩ rfl rfl) rfl ⟨rfl, ⟨by go_simp, by go_simp⟩, ⟨by go_simp, by go_simp⟩, by go_simp⟩
set_option maxRecDepth 100000 in
set_option maxHeartbeats 4000000 in
theorem do_s0 (g bl : Nat) (m p0 p1 : Int) (o0 o1 sp : Bool) (a b : Int) (n cc : Nat) (C : Array Value) (lost : Int)  (w : World) (hr : isRow w g) (hr' : rowAt w g = #[.int .i64 m, .int .i64 p0, .int .i64 p1, .bool o0, .bool o1, .bool sp, .int .u32 a, .int .u32 b, .slice (some ⟨bl, 0, none⟩) n cc, .int .i64 lost]) (hl : isRow w bl) (hl' : rowAt w bl = C) (hne : ¬ g = bl) (hne' : ¬ bl = g) (x y : Int) (hy : bits .and .u64 x 16777215 = y) (y0 : 0 ≤ y) (y1 : y ≤ 16777215) (id cid cpr cgr : Int) (cis : Bool) (HB : Hid (∀ W : World, isRow W g → rowAt W g = #[.int .i64 m, .int .i64 p0, .int .i64 p1, .bool o0, .bool o1, .bool sp, .int .u32 a, .int .u32 b, .slice (some ⟨bl, 0, none⟩) n cc, .int .i64 lost] → isRow W bl → rowAt W bl = C → Calls Try.prog 19 #[.pointer (some ⟨g, 0, none⟩)] W fun e w' => e = .returned (.agg #[.int .i64 cid, .int .i64 cpr, .int .i64 cgr, .bool cis]) ∧ Below W.heap.size W w')) (HS : Hid (∀ W : World, Calls Try.prog 53 #[.agg #[.int .i64 m, .int .i64 p0, .int .i64 p1, .bool o0, .bool o1, .bool sp, .int .u32 a, .int .u32 b], .agg #[.int .i64 cid, .int .i64 cpr, .int .i64 cgr, .bool cis], .int .i64 0] W fun e w' => e = .returned (.int .i64 id) ∧ Below W.heap.size W w')) :
    Calls Try.prog 28 #[.pointer (some ⟨g, 0, none⟩), .int .i64 13, .bool false, .int .u64 x] w fun e w' => e = .returned (.tuple #[.int .u64 (IntKind.u64.wrap id), .agg #[.bool false, .int .i64 (-1)], .bool true]) ∧ Row w' g #[.int .i64 m, .int .i64 p0, .int .i64 p1, .bool o0, .bool o1, .bool sp, .int .u32 a, .int .u32 b, .slice (some ⟨bl, 0, none⟩) n cc, .int .i64 lost] ∧ Row w' bl C ∧ Aside2 g bl w w' := by
  have _u : True := by have _ := hne; have _ := hne'; have _ := y0; have _ := y1; trivial
  clear _u
  have hX : Aside2 g bl w w := .of_below (Below.refl _ _)
  have lr := hr.lt
  have ll := hl.lt
  have nr : ¬ g = w.heap.size := by omega
  have rn : ¬ w.heap.size = g := by omega
  have nl : ¬ bl = w.heap.size := by omega
  have ln : ¬ w.heap.size = bl := by omega
  have nr1 : ¬ g = w.heap.size + 1 := by omega
  have rn1 : ¬ w.heap.size + 1 = g := by omega
  have nl1 : ¬ bl = w.heap.size + 1 := by omega
  have ln1 : ¬ w.heap.size + 1 = bl := by omega
  have hB_0 : Below w.heap.size w w := Below.refl _ _
  have ne_V_E : ¬ g = w.heap.size := by omega
  have en_V_E : ¬ w.heap.size = g := by omega
  have ne_L_E : ¬ bl = w.heap.size := by omega
  have en_L_E : ¬ w.heap.size = bl := by omega
  have ne_V_N : ¬ g = (w.heap.size + 1) := by omega
  have en_V_N : ¬ (w.heap.size + 1) = g := by omega
  have ne_L_N : ¬ bl = (w.heap.size + 1) := by omega
  have en_L_N : ¬ (w.heap.size + 1) = bl := by omega
  have ne_E_N : ¬ w.heap.size = (w.heap.size + 1) := by omega
  have en_E_N : ¬ (w.heap.size + 1) = w.heap.size := by omega
  go_enter Try.func28, Try.ntmps28
  go_wp2_with fail
  refine wp_named (fun W_ => (isRow W_ g ∧ rowAt W_ g = #[.int .i64 m, .int .i64 p0, .int .i64 p1, .bool o0, .bool o1, .bool sp, .int .u32 a, .int .u32 b, .slice (some ⟨bl, 0, none⟩) n cc, .int .i64 lost]) ∧ (isRow W_ bl ∧ rowAt W_ bl = C) ∧ (isRow W_ w.heap.size ∧ rowAt W_ w.heap.size = #[.bool false, .int .i64 0]) ∧ (isRow W_ (w.heap.size + 1) ∧ rowAt W_ (w.heap.size + 1) = #[.bool false, .int .i64 (-1)]) ∧ Aside2 g bl w W_) (by refine ⟨⟨by go_simp, by go_simp⟩, ⟨by go_simp, by go_simp⟩, ⟨by go_simp, by go_simp⟩, ⟨by go_simp, by go_simp⟩, by go_simp⟩) ?_
  rintro v1 ⟨⟨V_1, V_1'⟩, ⟨L_1, L_1'⟩, ⟨E_1, E_1'⟩, ⟨N_1, N_1'⟩, hB_1⟩
  clear hr hr' hl hl' hX
  have hz_1 : w.heap.size ≤ v1.heap.size := hB_1.size
  have hl_V_1 := isRow.lt V_1
  have hl_L_1 := isRow.lt L_1
  have hl_E_1 := isRow.lt E_1
  have hl_N_1 := isRow.lt N_1
  refine wp_region_held_drew (S := fun w' => (isRow w' g ∧ rowAt w' g = #[.int .i64 m, .int .i64 p0, .int .i64 p1, .bool o0, .bool o1, .bool sp, .int .u32 a, .int .u32 b, .slice (some ⟨bl, 0, none⟩) n cc, .int .i64 lost]) ∧ (isRow w' bl ∧ rowAt w' bl = C) ∧ (isRow w' w.heap.size ∧ (rowAt w' w.heap.size).size = 2) ∧ (isRow w' (w.heap.size + 1) ∧ rowAt w' (w.heap.size + 1) = #[.bool false, .int .i64 (-1)]) ∧ Aside2 g bl w w') (by kernel_rfl) ⟨⟨by go_simp, by go_simp⟩, ⟨by go_simp, by go_simp⟩, ⟨by go_simp, by go_simp⟩, ⟨by go_simp, by go_simp⟩, by go_simp⟩ (fun hHeld => ?_)
  refine wpAnyH_take (i := 0) (oi := ⟨some 48, .move (.tmp 0), 24, "vcpu.go:165", #[], none⟩) (v := ?_) rfl (by kernel_rfl) (by kernel_rfl) (by kernel_rfl) (fun _ _ _ h => h) (Or.inl ⟨by rfl, ?_⟩) (by assumption) ?_
  rotate_left
  · (intro w_ hS_; (try dsimp only at hS_); go_simp; try with_reducible rfl)
  try simp only [Act.put, List.setIfInBounds_toArray, List.set_cons_zero, List.set_cons_succ]
  refine wpAnyH_take (i := 1) (oi := ⟨some 49, .nilCheck (.tmp 48), 0, "vcpu.go:165", #[⟨0, .data⟩], none⟩) (v := ?_) rfl (by kernel_rfl) (by kernel_rfl) (by kernel_rfl) (fun _ _ _ h => h) (Or.inl ⟨by rfl, ?_⟩) (by assumption) ?_
  rotate_left
  · (intro w_ hS_; (try dsimp only at hS_); go_simp; try with_reducible rfl)
  try simp only [Act.put, List.setIfInBounds_toArray, List.set_cons_zero, List.set_cons_succ]
  refine wpAnyH_take (i := 2) (oi := ⟨some 50, .fieldAddr 37 (.tmp 49) 0, 0, "vcpu.go:165", #[⟨1, .data⟩], none⟩) (v := ?_) rfl (by kernel_rfl) (by kernel_rfl) (by kernel_rfl) (fun _ _ _ h => h) (Or.inl ⟨by rfl, ?_⟩) (by assumption) ?_
  rotate_left
  · (intro w_ hS_; (try dsimp only at hS_); go_simp; try with_reducible rfl)
  try simp only [Act.put, List.setIfInBounds_toArray, List.set_cons_zero, List.set_cons_succ]
  refine wpAnyH_take (i := 3) (oi := ⟨some 51, .load 35 (.tmp 50), 35, "vcpu.go:165", #[⟨2, .data⟩], none⟩) (v := ?_) rfl (by kernel_rfl) (by kernel_rfl) (by kernel_rfl) (fun _ _ _ h => h) (Or.inl ⟨by rfl, ?_⟩) (by assumption) ?_
  rotate_left
  · (intro w_ hS_; (try dsimp only at hS_); go_simp; try with_reducible rfl)
  try simp only [Act.put, List.setIfInBounds_toArray, List.set_cons_zero, List.set_cons_succ]
  refine wpAnyH_take (i := 4) (oi := ⟨some 52, .move (.tmp 0), 24, "vcpu.go:165", #[], none⟩) (v := ?_) rfl (by kernel_rfl) (by kernel_rfl) (by kernel_rfl) (fun _ _ _ h => h) (Or.inl ⟨by rfl, ?_⟩) (by assumption) ?_
  rotate_left
  · (intro w_ hS_; (try dsimp only at hS_); go_simp; try with_reducible rfl)
  try simp only [Act.put, List.setIfInBounds_toArray, List.set_cons_zero, List.set_cons_succ]
  refine wpAnyH_take (i := 8) (oi := ⟨some 56, .load 57 (.tmp 11), 57, "vcpu.go:165", #[⟨9, .gcOnly .lateStores⟩], none⟩) (v := ?_) rfl (by kernel_rfl) (by kernel_rfl) (by kernel_rfl) (fun _ _ _ h => h) (Or.inl ⟨by rfl, ?_⟩) (by assumption) ?_
  rotate_left
  · (intro w_ hS_; (try dsimp only at hS_); go_simp; try with_reducible rfl)
  try simp only [Act.put, List.setIfInBounds_toArray, List.set_cons_zero, List.set_cons_succ]
  refine wpAnyH_ready (rs := [5]) (by kernel_rfl) (by simp) ?_
  refine AllReadyH.cons (o := ⟨some 53, .call ⟨.value (.func 19), #[.tmp 52], #[24]⟩, 47, "vcpu.go:165", #[⟨4, .data⟩], none⟩) rfl (fun K hK => ?_) AllReadyH.nil
  (have hq_ := hHeld; (try dsimp only at hq_))
  obtain ⟨⟨PV_2_1, PV_2_1'⟩, ⟨PL_2_1, PL_2_1'⟩, ⟨PE_2_1, PE_2_1'⟩, ⟨PN_2_1, PN_2_1'⟩, hF_2_1⟩ := hq_
  go_simp
  refine (HB.out _ (by go_simp) (by go_simp) (by go_simp) (by go_simp)).mono ?_
  rintro e u2_1 ⟨rfl, hb⟩
  refine hK.out _ _ ?_ (fun hHeld => ?_)
  · exact ⟨⟨rk1 PV_2_1 hb, rk2 PV_2_1 PV_2_1' hb⟩, ⟨rk1 PL_2_1 hb, rk2 PL_2_1 PL_2_1' hb⟩, ⟨rk1 PE_2_1 hb, by rw [rk3 PE_2_1 hb]; exact PE_2_1'⟩, ⟨rk1 PN_2_1 hb, rk2 PN_2_1 PN_2_1' hb⟩, Aside2.low hF_2_1 hb⟩
  clear hK K
  try simp only [Act.put, List.setIfInBounds_toArray, List.set_cons_zero, List.set_cons_succ]
  refine wpAnyH_ready (rs := [6]) (by kernel_rfl) (by simp) ?_
  refine AllReadyH.cons (o := ⟨some 54, .call ⟨.value (.func 53), #[.tmp 51, .tmp 53, .const (.int .i64 0)], #[35, 47, 3]⟩, 3, "vcpu.go:165", #[⟨3, .data⟩, ⟨5, .data⟩, ⟨5, .chain⟩], none⟩) rfl (fun K hK => ?_) AllReadyH.nil
  (have hq_ := hHeld; (try dsimp only at hq_))
  obtain ⟨⟨PV_2_2, PV_2_2'⟩, ⟨PL_2_2, PL_2_2'⟩, ⟨PE_2_2, PE_2_2'⟩, ⟨PN_2_2, PN_2_2'⟩, hF_2_2⟩ := hq_
  go_simp
  refine (HS.out _).mono ?_
  rintro e u2_2 ⟨rfl, hb⟩
  refine hK.out _ _ ?_ (fun hHeld => ?_)
  · exact ⟨⟨rk1 PV_2_2 hb, rk2 PV_2_2 PV_2_2' hb⟩, ⟨rk1 PL_2_2 hb, rk2 PL_2_2 PL_2_2' hb⟩, ⟨rk1 PE_2_2 hb, by rw [rk3 PE_2_2 hb]; exact PE_2_2'⟩, ⟨rk1 PN_2_2 hb, rk2 PN_2_2 PN_2_2' hb⟩, Aside2.low hF_2_2 hb⟩
  clear hK K
  try simp only [Act.put, List.setIfInBounds_toArray, List.set_cons_zero, List.set_cons_succ]
  refine wpAnyH_take (i := 7) (oi := ⟨some 55, .convert 3 67 (.tmp 54), 67, "vcpu.go:165", #[⟨6, .data⟩], none⟩) (v := ?_) rfl (by kernel_rfl) (by kernel_rfl) (by kernel_rfl) (fun _ _ _ h => h) (Or.inl ⟨by rfl, ?_⟩) (by assumption) ?_
  rotate_left
  · (intro w_ hS_; (try dsimp only at hS_); go_simp; try with_reducible rfl)
  try simp only [Act.put, List.setIfInBounds_toArray, List.set_cons_zero, List.set_cons_succ]
  refine wpAnyH_take (i := 9) (oi := ⟨some 8, .assign (.tmp 55), 67, "vcpu.go:165", #[⟨7, .data⟩, ⟨6, .chain⟩, ⟨0, .phase⟩, ⟨1, .phase⟩, ⟨2, .phase⟩, ⟨3, .phase⟩, ⟨4, .phase⟩, ⟨5, .phase⟩, ⟨6, .phase⟩, ⟨7, .phase⟩, ⟨8, .textOnly .lateStores⟩], none⟩) (v := ?_) rfl (by kernel_rfl) (by kernel_rfl) (by kernel_rfl) (fun _ _ _ h => h) (Or.inl ⟨by rfl, ?_⟩) (by assumption) ?_
  rotate_left
  · (intro w_ hS_; (try dsimp only at hS_); go_simp; try with_reducible rfl)
  try simp only [Act.put, List.setIfInBounds_toArray, List.set_cons_zero, List.set_cons_succ]
  refine wpAnyH_ready (rs := [10]) (by kernel_rfl) (by simp) ?_
  refine AllReadyH.cons (o := ⟨none, .store 57 (.tmp 9) (.tmp 56), 0, "vcpu.go:165", #[⟨8, .data⟩, ⟨9, .chain⟩, ⟨0, .phase⟩, ⟨1, .phase⟩, ⟨2, .phase⟩, ⟨3, .phase⟩, ⟨4, .phase⟩, ⟨5, .phase⟩, ⟨6, .phase⟩, ⟨7, .phase⟩, ⟨8, .phase⟩, ⟨9, .phase⟩], none⟩) rfl (fun K hK => ?_) AllReadyH.nil
  (have hq_ := hHeld; (try dsimp only at hq_))
  obtain ⟨⟨PV_2_3, PV_2_3'⟩, ⟨PL_2_3, PL_2_3'⟩, ⟨PE_2_3, PE_2_3'⟩, ⟨PN_2_3, PN_2_3'⟩, hF_2_3⟩ := hq_
  go_simp
  refine hK.out _ _ ?_ (fun hHeld => ?_)
  · (refine ⟨⟨by go_simp, by go_simp⟩, ⟨by go_simp, by go_simp⟩, ⟨by go_simp, by go_simp⟩, ⟨by go_simp, by go_simp⟩, by go_simp⟩)
  clear hK K
  try simp only [Act.put, List.setIfInBounds_toArray, List.set_cons_zero, List.set_cons_succ]
  refine wpAnyH_take (i := 11) (oi := ⟨some 10, .assign (.const (.bool true)), 4, "vcpu.go:165", #[⟨10, .chain⟩, ⟨0, .phase⟩, ⟨1, .phase⟩, ⟨2, .phase⟩, ⟨3, .phase⟩, ⟨4, .phase⟩, ⟨5, .phase⟩, ⟨6, .phase⟩, ⟨7, .phase⟩, ⟨8, .phase⟩, ⟨9, .phase⟩, ⟨10, .phase⟩], none⟩) (v := ?_) rfl (by kernel_rfl) (by kernel_rfl) (by kernel_rfl) (fun _ _ _ h => h) (Or.inl ⟨by rfl, ?_⟩) (by assumption) ?_
  rotate_left
  · (intro w_ hS_; (try dsimp only at hS_); go_simp; try with_reducible rfl)
  try simp only [Act.put, List.setIfInBounds_toArray, List.set_cons_zero, List.set_cons_succ]
  refine wpAnyH_done (by kernel_rfl) ?_ _
  (try dsimp only at hHeld)
  go_split_ands
  go_wp2
  exact bodyPost_ret (resD _ rfl _ _ (x := false) (y := (-1)) (g := w.heap.size) rfl ⟨by go_simp, by go_simp⟩ rfl rfl) rfl ⟨rfl, ⟨by go_simp, by go_simp⟩, ⟨by go_simp, by go_simp⟩, by go_simp⟩
set_option maxRecDepth 100000 in
set_option maxHeartbeats 4000000 in
theorem do_s1 (g bl : Nat) (m p0 p1 : Int) (o0 o1 sp : Bool) (a b : Int) (n cc : Nat) (C : Array Value) (lost : Int)  (w : World) (hr : isRow w g) (hr' : rowAt w g = #[.int .i64 m, .int .i64 p0, .int .i64 p1, .bool o0, .bool o1, .bool sp, .int .u32 a, .int .u32 b, .slice (some ⟨bl, 0, none⟩) n cc, .int .i64 lost]) (hl : isRow w bl) (hl' : rowAt w bl = C) (hne : ¬ g = bl) (hne' : ¬ bl = g) (x y : Int) (hy : bits .and .u64 x 16777215 = y) (y0 : 0 ≤ y) (y1 : y ≤ 16777215) (id cid cpr cgr : Int) (cis : Bool) (HB : Hid (∀ W : World, isRow W g → rowAt W g = #[.int .i64 m, .int .i64 p0, .int .i64 p1, .bool o0, .bool o1, .bool sp, .int .u32 a, .int .u32 b, .slice (some ⟨bl, 0, none⟩) n cc, .int .i64 lost] → isRow W bl → rowAt W bl = C → Calls Try.prog 19 #[.pointer (some ⟨g, 0, none⟩)] W fun e w' => e = .returned (.agg #[.int .i64 cid, .int .i64 cpr, .int .i64 cgr, .bool cis]) ∧ Below W.heap.size W w')) (HS : Hid (∀ W : World, Calls Try.prog 53 #[.agg #[.int .i64 m, .int .i64 p0, .int .i64 p1, .bool o0, .bool o1, .bool sp, .int .u32 a, .int .u32 b], .agg #[.int .i64 cid, .int .i64 cpr, .int .i64 cgr, .bool cis], .int .i64 1] W fun e w' => e = .returned (.int .i64 id) ∧ Below W.heap.size W w')) :
    Calls Try.prog 28 #[.pointer (some ⟨g, 0, none⟩), .int .i64 14, .bool false, .int .u64 x] w fun e w' => e = .returned (.tuple #[.int .u64 (IntKind.u64.wrap id), .agg #[.bool false, .int .i64 (-1)], .bool true]) ∧ Row w' g #[.int .i64 m, .int .i64 p0, .int .i64 p1, .bool o0, .bool o1, .bool sp, .int .u32 a, .int .u32 b, .slice (some ⟨bl, 0, none⟩) n cc, .int .i64 lost] ∧ Row w' bl C ∧ Aside2 g bl w w' := by
  have _u : True := by have _ := hne; have _ := hne'; have _ := y0; have _ := y1; trivial
  clear _u
  have hX : Aside2 g bl w w := .of_below (Below.refl _ _)
  have lr := hr.lt
  have ll := hl.lt
  have nr : ¬ g = w.heap.size := by omega
  have rn : ¬ w.heap.size = g := by omega
  have nl : ¬ bl = w.heap.size := by omega
  have ln : ¬ w.heap.size = bl := by omega
  have nr1 : ¬ g = w.heap.size + 1 := by omega
  have rn1 : ¬ w.heap.size + 1 = g := by omega
  have nl1 : ¬ bl = w.heap.size + 1 := by omega
  have ln1 : ¬ w.heap.size + 1 = bl := by omega
  have hB_0 : Below w.heap.size w w := Below.refl _ _
  have ne_V_E : ¬ g = w.heap.size := by omega
  have en_V_E : ¬ w.heap.size = g := by omega
  have ne_L_E : ¬ bl = w.heap.size := by omega
  have en_L_E : ¬ w.heap.size = bl := by omega
  have ne_V_N : ¬ g = (w.heap.size + 1) := by omega
  have en_V_N : ¬ (w.heap.size + 1) = g := by omega
  have ne_L_N : ¬ bl = (w.heap.size + 1) := by omega
  have en_L_N : ¬ (w.heap.size + 1) = bl := by omega
  have ne_E_N : ¬ w.heap.size = (w.heap.size + 1) := by omega
  have en_E_N : ¬ (w.heap.size + 1) = w.heap.size := by omega
  go_enter Try.func28, Try.ntmps28
  go_wp2_with fail
  refine wp_named (fun W_ => (isRow W_ g ∧ rowAt W_ g = #[.int .i64 m, .int .i64 p0, .int .i64 p1, .bool o0, .bool o1, .bool sp, .int .u32 a, .int .u32 b, .slice (some ⟨bl, 0, none⟩) n cc, .int .i64 lost]) ∧ (isRow W_ bl ∧ rowAt W_ bl = C) ∧ (isRow W_ w.heap.size ∧ rowAt W_ w.heap.size = #[.bool false, .int .i64 0]) ∧ (isRow W_ (w.heap.size + 1) ∧ rowAt W_ (w.heap.size + 1) = #[.bool false, .int .i64 (-1)]) ∧ Aside2 g bl w W_) (by refine ⟨⟨by go_simp, by go_simp⟩, ⟨by go_simp, by go_simp⟩, ⟨by go_simp, by go_simp⟩, ⟨by go_simp, by go_simp⟩, by go_simp⟩) ?_
  rintro v1 ⟨⟨V_1, V_1'⟩, ⟨L_1, L_1'⟩, ⟨E_1, E_1'⟩, ⟨N_1, N_1'⟩, hB_1⟩
  clear hr hr' hl hl' hX
  have hz_1 : w.heap.size ≤ v1.heap.size := hB_1.size
  have hl_V_1 := isRow.lt V_1
  have hl_L_1 := isRow.lt L_1
  have hl_E_1 := isRow.lt E_1
  have hl_N_1 := isRow.lt N_1
  refine wp_region_held_drew (S := fun w' => (isRow w' g ∧ rowAt w' g = #[.int .i64 m, .int .i64 p0, .int .i64 p1, .bool o0, .bool o1, .bool sp, .int .u32 a, .int .u32 b, .slice (some ⟨bl, 0, none⟩) n cc, .int .i64 lost]) ∧ (isRow w' bl ∧ rowAt w' bl = C) ∧ (isRow w' w.heap.size ∧ (rowAt w' w.heap.size).size = 2) ∧ (isRow w' (w.heap.size + 1) ∧ rowAt w' (w.heap.size + 1) = #[.bool false, .int .i64 (-1)]) ∧ Aside2 g bl w w') (by kernel_rfl) ⟨⟨by go_simp, by go_simp⟩, ⟨by go_simp, by go_simp⟩, ⟨by go_simp, by go_simp⟩, ⟨by go_simp, by go_simp⟩, by go_simp⟩ (fun hHeld => ?_)
  refine wpAnyH_take (i := 0) (oi := ⟨some 64, .move (.tmp 0), 24, "vcpu.go:167", #[], none⟩) (v := ?_) rfl (by kernel_rfl) (by kernel_rfl) (by kernel_rfl) (fun _ _ _ h => h) (Or.inl ⟨by rfl, ?_⟩) (by assumption) ?_
  rotate_left
  · (intro w_ hS_; (try dsimp only at hS_); go_simp; try with_reducible rfl)
  try simp only [Act.put, List.setIfInBounds_toArray, List.set_cons_zero, List.set_cons_succ]
  refine wpAnyH_take (i := 1) (oi := ⟨some 65, .nilCheck (.tmp 64), 0, "vcpu.go:167", #[⟨0, .data⟩], none⟩) (v := ?_) rfl (by kernel_rfl) (by kernel_rfl) (by kernel_rfl) (fun _ _ _ h => h) (Or.inl ⟨by rfl, ?_⟩) (by assumption) ?_
  rotate_left
  · (intro w_ hS_; (try dsimp only at hS_); go_simp; try with_reducible rfl)
  try simp only [Act.put, List.setIfInBounds_toArray, List.set_cons_zero, List.set_cons_succ]
  refine wpAnyH_take (i := 2) (oi := ⟨some 66, .fieldAddr 37 (.tmp 65) 0, 0, "vcpu.go:167", #[⟨1, .data⟩], none⟩) (v := ?_) rfl (by kernel_rfl) (by kernel_rfl) (by kernel_rfl) (fun _ _ _ h => h) (Or.inl ⟨by rfl, ?_⟩) (by assumption) ?_
  rotate_left
  · (intro w_ hS_; (try dsimp only at hS_); go_simp; try with_reducible rfl)
  try simp only [Act.put, List.setIfInBounds_toArray, List.set_cons_zero, List.set_cons_succ]
  refine wpAnyH_take (i := 3) (oi := ⟨some 67, .load 35 (.tmp 66), 35, "vcpu.go:167", #[⟨2, .data⟩], none⟩) (v := ?_) rfl (by kernel_rfl) (by kernel_rfl) (by kernel_rfl) (fun _ _ _ h => h) (Or.inl ⟨by rfl, ?_⟩) (by assumption) ?_
  rotate_left
  · (intro w_ hS_; (try dsimp only at hS_); go_simp; try with_reducible rfl)
  try simp only [Act.put, List.setIfInBounds_toArray, List.set_cons_zero, List.set_cons_succ]
  refine wpAnyH_take (i := 4) (oi := ⟨some 68, .move (.tmp 0), 24, "vcpu.go:167", #[], none⟩) (v := ?_) rfl (by kernel_rfl) (by kernel_rfl) (by kernel_rfl) (fun _ _ _ h => h) (Or.inl ⟨by rfl, ?_⟩) (by assumption) ?_
  rotate_left
  · (intro w_ hS_; (try dsimp only at hS_); go_simp; try with_reducible rfl)
  try simp only [Act.put, List.setIfInBounds_toArray, List.set_cons_zero, List.set_cons_succ]
  refine wpAnyH_take (i := 8) (oi := ⟨some 72, .load 57 (.tmp 11), 57, "vcpu.go:167", #[⟨9, .gcOnly .lateStores⟩], none⟩) (v := ?_) rfl (by kernel_rfl) (by kernel_rfl) (by kernel_rfl) (fun _ _ _ h => h) (Or.inl ⟨by rfl, ?_⟩) (by assumption) ?_
  rotate_left
  · (intro w_ hS_; (try dsimp only at hS_); go_simp; try with_reducible rfl)
  try simp only [Act.put, List.setIfInBounds_toArray, List.set_cons_zero, List.set_cons_succ]
  refine wpAnyH_ready (rs := [5]) (by kernel_rfl) (by simp) ?_
  refine AllReadyH.cons (o := ⟨some 69, .call ⟨.value (.func 19), #[.tmp 68], #[24]⟩, 47, "vcpu.go:167", #[⟨4, .data⟩], none⟩) rfl (fun K hK => ?_) AllReadyH.nil
  (have hq_ := hHeld; (try dsimp only at hq_))
  obtain ⟨⟨PV_2_1, PV_2_1'⟩, ⟨PL_2_1, PL_2_1'⟩, ⟨PE_2_1, PE_2_1'⟩, ⟨PN_2_1, PN_2_1'⟩, hF_2_1⟩ := hq_
  go_simp
  refine (HB.out _ (by go_simp) (by go_simp) (by go_simp) (by go_simp)).mono ?_
  rintro e u2_1 ⟨rfl, hb⟩
  refine hK.out _ _ ?_ (fun hHeld => ?_)
  · exact ⟨⟨rk1 PV_2_1 hb, rk2 PV_2_1 PV_2_1' hb⟩, ⟨rk1 PL_2_1 hb, rk2 PL_2_1 PL_2_1' hb⟩, ⟨rk1 PE_2_1 hb, by rw [rk3 PE_2_1 hb]; exact PE_2_1'⟩, ⟨rk1 PN_2_1 hb, rk2 PN_2_1 PN_2_1' hb⟩, Aside2.low hF_2_1 hb⟩
  clear hK K
  try simp only [Act.put, List.setIfInBounds_toArray, List.set_cons_zero, List.set_cons_succ]
  refine wpAnyH_ready (rs := [6]) (by kernel_rfl) (by simp) ?_
  refine AllReadyH.cons (o := ⟨some 70, .call ⟨.value (.func 53), #[.tmp 67, .tmp 69, .const (.int .i64 1)], #[35, 47, 3]⟩, 3, "vcpu.go:167", #[⟨3, .data⟩, ⟨5, .data⟩, ⟨5, .chain⟩], none⟩) rfl (fun K hK => ?_) AllReadyH.nil
  (have hq_ := hHeld; (try dsimp only at hq_))
  obtain ⟨⟨PV_2_2, PV_2_2'⟩, ⟨PL_2_2, PL_2_2'⟩, ⟨PE_2_2, PE_2_2'⟩, ⟨PN_2_2, PN_2_2'⟩, hF_2_2⟩ := hq_
  go_simp
  refine (HS.out _).mono ?_
  rintro e u2_2 ⟨rfl, hb⟩
  refine hK.out _ _ ?_ (fun hHeld => ?_)
  · exact ⟨⟨rk1 PV_2_2 hb, rk2 PV_2_2 PV_2_2' hb⟩, ⟨rk1 PL_2_2 hb, rk2 PL_2_2 PL_2_2' hb⟩, ⟨rk1 PE_2_2 hb, by rw [rk3 PE_2_2 hb]; exact PE_2_2'⟩, ⟨rk1 PN_2_2 hb, rk2 PN_2_2 PN_2_2' hb⟩, Aside2.low hF_2_2 hb⟩
  clear hK K
  try simp only [Act.put, List.setIfInBounds_toArray, List.set_cons_zero, List.set_cons_succ]
  refine wpAnyH_take (i := 7) (oi := ⟨some 71, .convert 3 67 (.tmp 70), 67, "vcpu.go:167", #[⟨6, .data⟩], none⟩) (v := ?_) rfl (by kernel_rfl) (by kernel_rfl) (by kernel_rfl) (fun _ _ _ h => h) (Or.inl ⟨by rfl, ?_⟩) (by assumption) ?_
  rotate_left
  · (intro w_ hS_; (try dsimp only at hS_); go_simp; try with_reducible rfl)
  try simp only [Act.put, List.setIfInBounds_toArray, List.set_cons_zero, List.set_cons_succ]
  refine wpAnyH_take (i := 9) (oi := ⟨some 8, .assign (.tmp 71), 67, "vcpu.go:167", #[⟨7, .data⟩, ⟨6, .chain⟩, ⟨0, .phase⟩, ⟨1, .phase⟩, ⟨2, .phase⟩, ⟨3, .phase⟩, ⟨4, .phase⟩, ⟨5, .phase⟩, ⟨6, .phase⟩, ⟨7, .phase⟩, ⟨8, .textOnly .lateStores⟩], none⟩) (v := ?_) rfl (by kernel_rfl) (by kernel_rfl) (by kernel_rfl) (fun _ _ _ h => h) (Or.inl ⟨by rfl, ?_⟩) (by assumption) ?_
  rotate_left
  · (intro w_ hS_; (try dsimp only at hS_); go_simp; try with_reducible rfl)
  try simp only [Act.put, List.setIfInBounds_toArray, List.set_cons_zero, List.set_cons_succ]
  refine wpAnyH_ready (rs := [10]) (by kernel_rfl) (by simp) ?_
  refine AllReadyH.cons (o := ⟨none, .store 57 (.tmp 9) (.tmp 72), 0, "vcpu.go:167", #[⟨8, .data⟩, ⟨9, .chain⟩, ⟨0, .phase⟩, ⟨1, .phase⟩, ⟨2, .phase⟩, ⟨3, .phase⟩, ⟨4, .phase⟩, ⟨5, .phase⟩, ⟨6, .phase⟩, ⟨7, .phase⟩, ⟨8, .phase⟩, ⟨9, .phase⟩], none⟩) rfl (fun K hK => ?_) AllReadyH.nil
  (have hq_ := hHeld; (try dsimp only at hq_))
  obtain ⟨⟨PV_2_3, PV_2_3'⟩, ⟨PL_2_3, PL_2_3'⟩, ⟨PE_2_3, PE_2_3'⟩, ⟨PN_2_3, PN_2_3'⟩, hF_2_3⟩ := hq_
  go_simp
  refine hK.out _ _ ?_ (fun hHeld => ?_)
  · (refine ⟨⟨by go_simp, by go_simp⟩, ⟨by go_simp, by go_simp⟩, ⟨by go_simp, by go_simp⟩, ⟨by go_simp, by go_simp⟩, by go_simp⟩)
  clear hK K
  try simp only [Act.put, List.setIfInBounds_toArray, List.set_cons_zero, List.set_cons_succ]
  refine wpAnyH_take (i := 11) (oi := ⟨some 10, .assign (.const (.bool true)), 4, "vcpu.go:167", #[⟨10, .chain⟩, ⟨0, .phase⟩, ⟨1, .phase⟩, ⟨2, .phase⟩, ⟨3, .phase⟩, ⟨4, .phase⟩, ⟨5, .phase⟩, ⟨6, .phase⟩, ⟨7, .phase⟩, ⟨8, .phase⟩, ⟨9, .phase⟩, ⟨10, .phase⟩], none⟩) (v := ?_) rfl (by kernel_rfl) (by kernel_rfl) (by kernel_rfl) (fun _ _ _ h => h) (Or.inl ⟨by rfl, ?_⟩) (by assumption) ?_
  rotate_left
  · (intro w_ hS_; (try dsimp only at hS_); go_simp; try with_reducible rfl)
  try simp only [Act.put, List.setIfInBounds_toArray, List.set_cons_zero, List.set_cons_succ]
  refine wpAnyH_done (by kernel_rfl) ?_ _
  (try dsimp only at hHeld)
  go_split_ands
  go_wp2
  exact bodyPost_ret (resD _ rfl _ _ (x := false) (y := (-1)) (g := w.heap.size) rfl ⟨by go_simp, by go_simp⟩ rfl rfl) rfl ⟨rfl, ⟨by go_simp, by go_simp⟩, ⟨by go_simp, by go_simp⟩, by go_simp⟩
set_option maxRecDepth 100000 in
set_option maxHeartbeats 4000000 in
theorem do_e0 (g bl : Nat) (m p0 p1 : Int) (o0 o1 sp : Bool) (a b : Int) (n cc : Nat) (C : Array Value) (lost : Int) (m' p0' p1' : Int) (o0' o1' sp' : Bool) (a' b' : Int) (C' : Array Value) (lost' : Int) (w : World) (hr : isRow w g) (hr' : rowAt w g = #[.int .i64 m, .int .i64 p0, .int .i64 p1, .bool o0, .bool o1, .bool sp, .int .u32 a, .int .u32 b, .slice (some ⟨bl, 0, none⟩) n cc, .int .i64 lost]) (hl : isRow w bl) (hl' : rowAt w bl = C) (hne : ¬ g = bl) (hne' : ¬ bl = g) (x y : Int) (hy : bits .and .u64 x 16777215 = y) (y0 : 0 ≤ y) (y1 : y ≤ 16777215) (ok : Bool) (mm : Int) (HE : Hid (∀ W : World, isRow W g → rowAt W g = #[.int .i64 m, .int .i64 p0, .int .i64 p1, .bool o0, .bool o1, .bool sp, .int .u32 a, .int .u32 b, .slice (some ⟨bl, 0, none⟩) n cc, .int .i64 lost] → isRow W bl → rowAt W bl = C → Calls Try.prog 23 #[.pointer (some ⟨g, 0, none⟩), .int .i64 0, .int .i64 y] W fun e w' => e = .returned (.agg #[.bool ok, .int .i64 mm]) ∧ Row w' g #[.int .i64 m', .int .i64 p0', .int .i64 p1', .bool o0', .bool o1', .bool sp', .int .u32 a', .int .u32 b', .slice (some ⟨bl, 0, none⟩) n cc, .int .i64 lost'] ∧ Row w' bl C' ∧ Aside2 g bl W w')) :
    Calls Try.prog 28 #[.pointer (some ⟨g, 0, none⟩), .int .i64 3, .bool true, .int .u64 x] w fun e w' => e = .returned (.tuple #[.int .u64 0, .agg #[.bool ok, .int .i64 mm], .bool true]) ∧ Row w' g #[.int .i64 m', .int .i64 p0', .int .i64 p1', .bool o0', .bool o1', .bool sp', .int .u32 a', .int .u32 b', .slice (some ⟨bl, 0, none⟩) n cc, .int .i64 lost'] ∧ Row w' bl C' ∧ Aside2 g bl w w' := by
  have _u : True := by have _ := hne; have _ := hne'; have _ := y0; have _ := y1; trivial
  clear _u
  have hX : Aside2 g bl w w := .of_below (Below.refl _ _)
  have lr := hr.lt
  have ll := hl.lt
  have nr : ¬ g = w.heap.size := by omega
  have rn : ¬ w.heap.size = g := by omega
  have nl : ¬ bl = w.heap.size := by omega
  have ln : ¬ w.heap.size = bl := by omega
  have nr1 : ¬ g = w.heap.size + 1 := by omega
  have rn1 : ¬ w.heap.size + 1 = g := by omega
  have nl1 : ¬ bl = w.heap.size + 1 := by omega
  have ln1 : ¬ w.heap.size + 1 = bl := by omega
  have hB_0 : Below w.heap.size w w := Below.refl _ _
  have ne_V_E : ¬ g = w.heap.size := by omega
  have en_V_E : ¬ w.heap.size = g := by omega
  have ne_L_E : ¬ bl = w.heap.size := by omega
  have en_L_E : ¬ w.heap.size = bl := by omega
  have ne_V_N : ¬ g = (w.heap.size + 1) := by omega
  have en_V_N : ¬ (w.heap.size + 1) = g := by omega
  have ne_L_N : ¬ bl = (w.heap.size + 1) := by omega
  have en_L_N : ¬ (w.heap.size + 1) = bl := by omega
  have ne_E_N : ¬ w.heap.size = (w.heap.size + 1) := by omega
  have en_E_N : ¬ (w.heap.size + 1) = w.heap.size := by omega
  go_enter Try.func28, Try.ntmps28
  go_wp2_with fail
  refine (HE.out _ (by go_simp) (by go_simp) (by go_simp) (by go_simp)).mono ?_
  rintro e v1 ⟨rfl, ⟨V_1, V_1'⟩, ⟨L_1, L_1'⟩, hA1⟩
  obtain ⟨E_1, E_1'⟩ : Row v1 w.heap.size #[.bool false, .int .i64 0] := hA1.row ⟨by go_simp, by go_simp⟩ (by omega) (by omega)
  obtain ⟨N_1, N_1'⟩ : Row v1 (w.heap.size + 1) #[.bool false, .int .i64 (-1)] := hA1.row ⟨by go_simp, by go_simp⟩ (by omega) (by omega)
  have hB_1 : Aside2 g bl w v1 := Aside2.trans (by go_simp) hA1
  clear hr hr' hl hl' hX hA1
  have hz_1 : w.heap.size ≤ v1.heap.size := hB_1.size
  have hl_V_1 := isRow.lt V_1
  have hl_L_1 := isRow.lt L_1
  have hl_E_1 := isRow.lt E_1
  have hl_N_1 := isRow.lt N_1
  go_wp2
  exact bodyPost_ret (resD _ rfl _ _ (x := ok) (y := mm) (g := w.heap.size) rfl ⟨by go_simp, by go_simp⟩ rfl rfl) rfl ⟨rfl, ⟨by go_simp, by go_simp⟩, ⟨by go_simp, by go_simp⟩, by go_simp⟩
set_option maxRecDepth 100000 in
set_option maxHeartbeats 4000000 in
theorem do_e1 (g bl : Nat) (m p0 p1 : Int) (o0 o1 sp : Bool) (a b : Int) (n cc : Nat) (C : Array Value) (lost : Int) (m' p0' p1' : Int) (o0' o1' sp' : Bool) (a' b' : Int) (C' : Array Value) (lost' : Int) (w : World) (hr : isRow w g) (hr' : rowAt w g = #[.int .i64 m, .int .i64 p0, .int .i64 p1, .bool o0, .bool o1, .bool sp, .int .u32 a, .int .u32 b, .slice (some ⟨bl, 0, none⟩) n cc, .int .i64 lost]) (hl : isRow w bl) (hl' : rowAt w bl = C) (hne : ¬ g = bl) (hne' : ¬ bl = g) (x y : Int) (hy : bits .and .u64 x 16777215 = y) (y0 : 0 ≤ y) (y1 : y ≤ 16777215) (ok : Bool) (mm : Int) (HE : Hid (∀ W : World, isRow W g → rowAt W g = #[.int .i64 m, .int .i64 p0, .int .i64 p1, .bool o0, .bool o1, .bool sp, .int .u32 a, .int .u32 b, .slice (some ⟨bl, 0, none⟩) n cc, .int .i64 lost] → isRow W bl → rowAt W bl = C → Calls Try.prog 23 #[.pointer (some ⟨g, 0, none⟩), .int .i64 1, .int .i64 y] W fun e w' => e = .returned (.agg #[.bool ok, .int .i64 mm]) ∧ Row w' g #[.int .i64 m', .int .i64 p0', .int .i64 p1', .bool o0', .bool o1', .bool sp', .int .u32 a', .int .u32 b', .slice (some ⟨bl, 0, none⟩) n cc, .int .i64 lost'] ∧ Row w' bl C' ∧ Aside2 g bl W w')) :
    Calls Try.prog 28 #[.pointer (some ⟨g, 0, none⟩), .int .i64 4, .bool true, .int .u64 x] w fun e w' => e = .returned (.tuple #[.int .u64 0, .agg #[.bool ok, .int .i64 mm], .bool true]) ∧ Row w' g #[.int .i64 m', .int .i64 p0', .int .i64 p1', .bool o0', .bool o1', .bool sp', .int .u32 a', .int .u32 b', .slice (some ⟨bl, 0, none⟩) n cc, .int .i64 lost'] ∧ Row w' bl C' ∧ Aside2 g bl w w' := by
  have _u : True := by have _ := hne; have _ := hne'; have _ := y0; have _ := y1; trivial
  clear _u
  have hX : Aside2 g bl w w := .of_below (Below.refl _ _)
  have lr := hr.lt
  have ll := hl.lt
  have nr : ¬ g = w.heap.size := by omega
  have rn : ¬ w.heap.size = g := by omega
  have nl : ¬ bl = w.heap.size := by omega
  have ln : ¬ w.heap.size = bl := by omega
  have nr1 : ¬ g = w.heap.size + 1 := by omega
  have rn1 : ¬ w.heap.size + 1 = g := by omega
  have nl1 : ¬ bl = w.heap.size + 1 := by omega
  have ln1 : ¬ w.heap.size + 1 = bl := by omega
  have hB_0 : Below w.heap.size w w := Below.refl _ _
  have ne_V_E : ¬ g = w.heap.size := by omega
  have en_V_E : ¬ w.heap.size = g := by omega
  have ne_L_E : ¬ bl = w.heap.size := by omega
  have en_L_E : ¬ w.heap.size = bl := by omega
  have ne_V_N : ¬ g = (w.heap.size + 1) := by omega
  have en_V_N : ¬ (w.heap.size + 1) = g := by omega
  have ne_L_N : ¬ bl = (w.heap.size + 1) := by omega
  have en_L_N : ¬ (w.heap.size + 1) = bl := by omega
  have ne_E_N : ¬ w.heap.size = (w.heap.size + 1) := by omega
  have en_E_N : ¬ (w.heap.size + 1) = w.heap.size := by omega
  go_enter Try.func28, Try.ntmps28
  go_wp2_with fail
  refine (HE.out _ (by go_simp) (by go_simp) (by go_simp) (by go_simp)).mono ?_
  rintro e v1 ⟨rfl, ⟨V_1, V_1'⟩, ⟨L_1, L_1'⟩, hA1⟩
  obtain ⟨E_1, E_1'⟩ : Row v1 w.heap.size #[.bool false, .int .i64 0] := hA1.row ⟨by go_simp, by go_simp⟩ (by omega) (by omega)
  obtain ⟨N_1, N_1'⟩ : Row v1 (w.heap.size + 1) #[.bool false, .int .i64 (-1)] := hA1.row ⟨by go_simp, by go_simp⟩ (by omega) (by omega)
  have hB_1 : Aside2 g bl w v1 := Aside2.trans (by go_simp) hA1
  clear hr hr' hl hl' hX hA1
  have hz_1 : w.heap.size ≤ v1.heap.size := hB_1.size
  have hl_V_1 := isRow.lt V_1
  have hl_L_1 := isRow.lt L_1
  have hl_E_1 := isRow.lt E_1
  have hl_N_1 := isRow.lt N_1
  go_wp2
  exact bodyPost_ret (resD _ rfl _ _ (x := ok) (y := mm) (g := w.heap.size) rfl ⟨by go_simp, by go_simp⟩ rfl rfl) rfl ⟨rfl, ⟨by go_simp, by go_simp⟩, ⟨by go_simp, by go_simp⟩, by go_simp⟩
set_option maxRecDepth 100000 in
set_option maxHeartbeats 4000000 in
theorem do_d (g bl : Nat) (m p0 p1 : Int) (o0 o1 sp : Bool) (a b : Int) (n cc : Nat) (C : Array Value) (lost : Int) (m' p0' p1' : Int) (o0' o1' sp' : Bool) (a' b' : Int) (C' : Array Value) (lost' : Int) (w : World) (hr : isRow w g) (hr' : rowAt w g = #[.int .i64 m, .int .i64 p0, .int .i64 p1, .bool o0, .bool o1, .bool sp, .int .u32 a, .int .u32 b, .slice (some ⟨bl, 0, none⟩) n cc, .int .i64 lost]) (hl : isRow w bl) (hl' : rowAt w bl = C) (hne : ¬ g = bl) (hne' : ¬ bl = g) (x y : Int) (hy : bits .and .u64 x 16777215 = y) (y0 : 0 ≤ y) (y1 : y ≤ 16777215) (ok : Bool) (mm : Int) (HE : Hid (∀ W : World, isRow W g → rowAt W g = #[.int .i64 m, .int .i64 p0, .int .i64 p1, .bool o0, .bool o1, .bool sp, .int .u32 a, .int .u32 b, .slice (some ⟨bl, 0, none⟩) n cc, .int .i64 lost] → isRow W bl → rowAt W bl = C → Calls Try.prog 24 #[.pointer (some ⟨g, 0, none⟩), .int .i64 y] W fun e w' => e = .returned (.agg #[.bool ok, .int .i64 mm]) ∧ Row w' g #[.int .i64 m', .int .i64 p0', .int .i64 p1', .bool o0', .bool o1', .bool sp', .int .u32 a', .int .u32 b', .slice (some ⟨bl, 0, none⟩) n cc, .int .i64 lost'] ∧ Row w' bl C' ∧ Aside2 g bl W w')) :
    Calls Try.prog 28 #[.pointer (some ⟨g, 0, none⟩), .int .i64 5, .bool true, .int .u64 x] w fun e w' => e = .returned (.tuple #[.int .u64 0, .agg #[.bool ok, .int .i64 mm], .bool true]) ∧ Row w' g #[.int .i64 m', .int .i64 p0', .int .i64 p1', .bool o0', .bool o1', .bool sp', .int .u32 a', .int .u32 b', .slice (some ⟨bl, 0, none⟩) n cc, .int .i64 lost'] ∧ Row w' bl C' ∧ Aside2 g bl w w' := by
  have _u : True := by have _ := hne; have _ := hne'; have _ := y0; have _ := y1; trivial
  clear _u
  have hX : Aside2 g bl w w := .of_below (Below.refl _ _)
  have lr := hr.lt
  have ll := hl.lt
  have nr : ¬ g = w.heap.size := by omega
  have rn : ¬ w.heap.size = g := by omega
  have nl : ¬ bl = w.heap.size := by omega
  have ln : ¬ w.heap.size = bl := by omega
  have nr1 : ¬ g = w.heap.size + 1 := by omega
  have rn1 : ¬ w.heap.size + 1 = g := by omega
  have nl1 : ¬ bl = w.heap.size + 1 := by omega
  have ln1 : ¬ w.heap.size + 1 = bl := by omega
  have hB_0 : Below w.heap.size w w := Below.refl _ _
  have ne_V_E : ¬ g = w.heap.size := by omega
  have en_V_E : ¬ w.heap.size = g := by omega
  have ne_L_E : ¬ bl = w.heap.size := by omega
  have en_L_E : ¬ w.heap.size = bl := by omega
  have ne_V_N : ¬ g = (w.heap.size + 1) := by omega
  have en_V_N : ¬ (w.heap.size + 1) = g := by omega
  have ne_L_N : ¬ bl = (w.heap.size + 1) := by omega
  have en_L_N : ¬ (w.heap.size + 1) = bl := by omega
  have ne_E_N : ¬ w.heap.size = (w.heap.size + 1) := by omega
  have en_E_N : ¬ (w.heap.size + 1) = w.heap.size := by omega
  go_enter Try.func28, Try.ntmps28
  go_wp2_with fail
  refine (HE.out _ (by go_simp) (by go_simp) (by go_simp) (by go_simp)).mono ?_
  rintro e v1 ⟨rfl, ⟨V_1, V_1'⟩, ⟨L_1, L_1'⟩, hA1⟩
  obtain ⟨E_1, E_1'⟩ : Row v1 w.heap.size #[.bool false, .int .i64 0] := hA1.row ⟨by go_simp, by go_simp⟩ (by omega) (by omega)
  obtain ⟨N_1, N_1'⟩ : Row v1 (w.heap.size + 1) #[.bool false, .int .i64 (-1)] := hA1.row ⟨by go_simp, by go_simp⟩ (by omega) (by omega)
  have hB_1 : Aside2 g bl w v1 := Aside2.trans (by go_simp) hA1
  clear hr hr' hl hl' hX hA1
  have hz_1 : w.heap.size ≤ v1.heap.size := hB_1.size
  have hl_V_1 := isRow.lt V_1
  have hl_L_1 := isRow.lt L_1
  have hl_E_1 := isRow.lt E_1
  have hl_N_1 := isRow.lt N_1
  go_wp2
  exact bodyPost_ret (resD _ rfl _ _ (x := ok) (y := mm) (g := w.heap.size) rfl ⟨by go_simp, by go_simp⟩ rfl rfl) rfl ⟨rfl, ⟨by go_simp, by go_simp⟩, ⟨by go_simp, by go_simp⟩, by go_simp⟩
set_option maxRecDepth 100000 in
set_option maxHeartbeats 4000000 in
theorem do_w (g bl : Nat) (m p0 p1 : Int) (o0 o1 sp : Bool) (a b : Int) (n cc : Nat) (C : Array Value) (lost : Int) (m' p0' p1' : Int) (o0' o1' sp' : Bool) (a' b' : Int) (w : World) (hr : isRow w g) (hr' : rowAt w g = #[.int .i64 m, .int .i64 p0, .int .i64 p1, .bool o0, .bool o1, .bool sp, .int .u32 a, .int .u32 b, .slice (some ⟨bl, 0, none⟩) n cc, .int .i64 lost]) (hl : isRow w bl) (hl' : rowAt w bl = C) (hne : ¬ g = bl) (hne' : ¬ bl = g) (x y : Int) (hy : bits .and .u64 x 16777215 = y) (y0 : 0 ≤ y) (y1 : y ≤ 16777215) (r : Int) (t3 : (r == 3) = false) (t4 : (r == 4) = false) (t5 : (r == 5) = false) (ok : Bool) (HW : Hid (∀ W : World, isRow W g → rowAt W g = #[.int .i64 m, .int .i64 p0, .int .i64 p1, .bool o0, .bool o1, .bool sp, .int .u32 a, .int .u32 b, .slice (some ⟨bl, 0, none⟩) n cc, .int .i64 lost] → Calls Try.prog 54 #[.pointer (some ⟨g, 0, none⟩), .int .i64 r, .int .u64 x] W fun e w' => e = .returned (.bool ok) ∧ Row w' g #[.int .i64 m', .int .i64 p0', .int .i64 p1', .bool o0', .bool o1', .bool sp', .int .u32 a', .int .u32 b', .slice (some ⟨bl, 0, none⟩) n cc, .int .i64 lost] ∧ Aside g W w')) :
    Calls Try.prog 28 #[.pointer (some ⟨g, 0, none⟩), .int .i64 r, .bool true, .int .u64 x] w fun e w' => e = .returned (.tuple #[.int .u64 0, .agg #[.bool false, .int .i64 (-1)], .bool ok]) ∧ Row w' g #[.int .i64 m', .int .i64 p0', .int .i64 p1', .bool o0', .bool o1', .bool sp', .int .u32 a', .int .u32 b', .slice (some ⟨bl, 0, none⟩) n cc, .int .i64 lost] ∧ Row w' bl C ∧ Aside2 g bl w w' := by
  have _u : True := by have _ := hne; have _ := hne'; have _ := y0; have _ := y1; trivial
  clear _u
  have hX : Aside2 g bl w w := .of_below (Below.refl _ _)
  have lr := hr.lt
  have ll := hl.lt
  have nr : ¬ g = w.heap.size := by omega
  have rn : ¬ w.heap.size = g := by omega
  have nl : ¬ bl = w.heap.size := by omega
  have ln : ¬ w.heap.size = bl := by omega
  have nr1 : ¬ g = w.heap.size + 1 := by omega
  have rn1 : ¬ w.heap.size + 1 = g := by omega
  have nl1 : ¬ bl = w.heap.size + 1 := by omega
  have ln1 : ¬ w.heap.size + 1 = bl := by omega
  have hB_0 : Below w.heap.size w w := Below.refl _ _
  have ne_V_E : ¬ g = w.heap.size := by omega
  have en_V_E : ¬ w.heap.size = g := by omega
  have ne_L_E : ¬ bl = w.heap.size := by omega
  have en_L_E : ¬ w.heap.size = bl := by omega
  have ne_V_N : ¬ g = (w.heap.size + 1) := by omega
  have en_V_N : ¬ (w.heap.size + 1) = g := by omega
  have ne_L_N : ¬ bl = (w.heap.size + 1) := by omega
  have en_L_N : ¬ (w.heap.size + 1) = bl := by omega
  have ne_E_N : ¬ w.heap.size = (w.heap.size + 1) := by omega
  have en_E_N : ¬ (w.heap.size + 1) = w.heap.size := by omega
  go_enter Try.func28, Try.ntmps28
  go_wp2_with fail
  refine wp_named (fun W_ => (isRow W_ g ∧ rowAt W_ g = #[.int .i64 m, .int .i64 p0, .int .i64 p1, .bool o0, .bool o1, .bool sp, .int .u32 a, .int .u32 b, .slice (some ⟨bl, 0, none⟩) n cc, .int .i64 lost]) ∧ (isRow W_ bl ∧ rowAt W_ bl = C) ∧ (isRow W_ w.heap.size ∧ rowAt W_ w.heap.size = #[.bool false, .int .i64 0]) ∧ (isRow W_ (w.heap.size + 1) ∧ rowAt W_ (w.heap.size + 1) = #[.bool false, .int .i64 (-1)]) ∧ Aside2 g bl w W_) (by refine ⟨⟨by go_simp, by go_simp⟩, ⟨by go_simp, by go_simp⟩, ⟨by go_simp, by go_simp⟩, ⟨by go_simp, by go_simp⟩, by go_simp⟩) ?_
  rintro v1 ⟨⟨V_1, V_1'⟩, ⟨L_1, L_1'⟩, ⟨E_1, E_1'⟩, ⟨N_1, N_1'⟩, hB_1⟩
  clear hr hr' hl hl' hX
  have hz_1 : w.heap.size ≤ v1.heap.size := hB_1.size
  have hl_V_1 := isRow.lt V_1
  have hl_L_1 := isRow.lt L_1
  have hl_E_1 := isRow.lt E_1
  have hl_N_1 := isRow.lt N_1
  refine wp_region_held_drew (S := fun w' => (isRow w' bl ∧ rowAt w' bl = C) ∧ (isRow w' w.heap.size ∧ (rowAt w' w.heap.size).size = 2) ∧ (isRow w' (w.heap.size + 1) ∧ rowAt w' (w.heap.size + 1) = #[.bool false, .int .i64 (-1)]) ∧ Aside2 g bl w w') (by kernel_rfl) ⟨⟨by go_simp, by go_simp⟩, ⟨by go_simp, by go_simp⟩, ⟨by go_simp, by go_simp⟩, by go_simp⟩ (fun hHeld => ?_)
  refine wpAnyH_take (i := 0) (oi := ⟨some 102, .load 57 (.tmp 11), 57, "vcpu.go:175", #[⟨7, .gcOnly .lateStores⟩], none⟩) (v := ?_) rfl (by kernel_rfl) (by kernel_rfl) (by kernel_rfl) (fun _ _ _ h => h) (Or.inl ⟨by rfl, ?_⟩) (by assumption) ?_
  rotate_left
  · (intro w_ hS_; (try dsimp only at hS_); go_simp; try with_reducible rfl)
  try simp only [Act.put, List.setIfInBounds_toArray, List.set_cons_zero, List.set_cons_succ]
  refine wpAnyH_take (i := 1) (oi := ⟨some 103, .move (.tmp 0), 24, "vcpu.go:175", #[], none⟩) (v := ?_) rfl (by kernel_rfl) (by kernel_rfl) (by kernel_rfl) (fun _ _ _ h => h) (Or.inl ⟨by rfl, ?_⟩) (by assumption) ?_
  rotate_left
  · (intro w_ hS_; (try dsimp only at hS_); go_simp; try with_reducible rfl)
  try simp only [Act.put, List.setIfInBounds_toArray, List.set_cons_zero, List.set_cons_succ]
  refine wpAnyH_take (i := 2) (oi := ⟨some 104, .nilCheck (.tmp 103), 0, "vcpu.go:175", #[⟨1, .data⟩], none⟩) (v := ?_) rfl (by kernel_rfl) (by kernel_rfl) (by kernel_rfl) (fun _ _ _ h => h) (Or.inl ⟨by rfl, ?_⟩) (by assumption) ?_
  rotate_left
  · (intro w_ hS_; (try dsimp only at hS_); go_simp; try with_reducible rfl)
  try simp only [Act.put, List.setIfInBounds_toArray, List.set_cons_zero, List.set_cons_succ]
  refine wpAnyH_take (i := 3) (oi := ⟨some 105, .fieldAddr 37 (.tmp 104) 0, 0, "vcpu.go:175", #[⟨2, .data⟩], none⟩) (v := ?_) rfl (by kernel_rfl) (by kernel_rfl) (by kernel_rfl) (fun _ _ _ h => h) (Or.inl ⟨by rfl, ?_⟩) (by assumption) ?_
  rotate_left
  · (intro w_ hS_; (try dsimp only at hS_); go_simp; try with_reducible rfl)
  try simp only [Act.put, List.setIfInBounds_toArray, List.set_cons_zero, List.set_cons_succ]
  refine wpAnyH_take (i := 4) (oi := ⟨some 106, .move (.tmp 1), 66, "vcpu.go:175", #[], none⟩) (v := ?_) rfl (by kernel_rfl) (by kernel_rfl) (by kernel_rfl) (fun _ _ _ h => h) (Or.inl ⟨by rfl, ?_⟩) (by assumption) ?_
  rotate_left
  · (intro w_ hS_; (try dsimp only at hS_); go_simp; try with_reducible rfl)
  try simp only [Act.put, List.setIfInBounds_toArray, List.set_cons_zero, List.set_cons_succ]
  refine wpAnyH_take (i := 5) (oi := ⟨some 107, .move (.tmp 3), 67, "vcpu.go:175", #[], none⟩) (v := ?_) rfl (by kernel_rfl) (by kernel_rfl) (by kernel_rfl) (fun _ _ _ h => h) (Or.inl ⟨by rfl, ?_⟩) (by assumption) ?_
  rotate_left
  · (intro w_ hS_; (try dsimp only at hS_); go_simp; try with_reducible rfl)
  try simp only [Act.put, List.setIfInBounds_toArray, List.set_cons_zero, List.set_cons_succ]
  refine wpAnyH_ready (rs := [6]) (by kernel_rfl) (by simp) ?_
  refine AllReadyH.cons (o := ⟨some 108, .call ⟨.value (.func 54), #[.tmp 105, .tmp 106, .tmp 107], #[35, 66, 67]⟩, 4, "vcpu.go:175", #[⟨3, .data⟩, ⟨4, .data⟩, ⟨5, .data⟩], none⟩) rfl (fun K hK => ?_) AllReadyH.nil
  (have hq_ := hHeld; (try dsimp only at hq_))
  obtain ⟨⟨PL_2_1, PL_2_1'⟩, ⟨PE_2_1, PE_2_1'⟩, ⟨PN_2_1, PN_2_1'⟩, hF_2_1⟩ := hq_
  go_simp
  refine (HW.out _ (by go_simp) (by go_simp)).mono ?_
  rintro e u2_1 ⟨rfl, ⟨V_2_1, V_2_1'⟩, hA2_1⟩
  refine hK.out _ _ ?_ (fun hHeld => ?_)
  · exact ⟨⟨(hA2_1.row ⟨PL_2_1, rfl⟩ (by omega)).1, by rw [(hA2_1.row ⟨PL_2_1, rfl⟩ (by omega)).2]; exact PL_2_1'⟩, ⟨(hA2_1.row ⟨PE_2_1, rfl⟩ (by omega)).1, by rw [(hA2_1.row ⟨PE_2_1, rfl⟩ (by omega)).2]; exact PE_2_1'⟩, ⟨(hA2_1.row ⟨PN_2_1, rfl⟩ (by omega)).1, by rw [(hA2_1.row ⟨PN_2_1, rfl⟩ (by omega)).2]; exact PN_2_1'⟩, Aside2.trans hF_2_1 (Aside2.left hA2_1)⟩
  clear hK K
  try simp only [Act.put, List.setIfInBounds_toArray, List.set_cons_zero, List.set_cons_succ]
  refine wpAnyH_take (i := 7) (oi := ⟨some 8, .assign (.const (.int .u64 0)), 67, "vcpu.go:175", #[⟨6, .chain⟩, ⟨0, .textOnly .lateStores⟩, ⟨1, .textOnly .lateStores⟩, ⟨2, .textOnly .lateStores⟩, ⟨3, .textOnly .lateStores⟩, ⟨4, .textOnly .lateStores⟩, ⟨5, .textOnly .lateStores⟩, ⟨6, .textOnly .lateStoresUnsure⟩], none⟩) (v := ?_) rfl (by kernel_rfl) (by kernel_rfl) (by kernel_rfl) (fun _ _ _ h => h) (Or.inl ⟨by rfl, ?_⟩) (by assumption) ?_
  rotate_left
  · (intro w_ hS_; (try dsimp only at hS_); go_simp; try with_reducible rfl)
  try simp only [Act.put, List.setIfInBounds_toArray, List.set_cons_zero, List.set_cons_succ]
  refine wpAnyH_ready (rs := [8]) (by kernel_rfl) (by simp) ?_
  refine AllReadyH.cons (o := ⟨none, .store 57 (.tmp 9) (.tmp 102), 0, "vcpu.go:175", #[⟨0, .data⟩, ⟨7, .chain⟩, ⟨0, .phase⟩, ⟨1, .textOnly .lateStores⟩, ⟨2, .textOnly .lateStores⟩, ⟨3, .textOnly .lateStores⟩, ⟨4, .textOnly .lateStores⟩, ⟨5, .textOnly .lateStores⟩, ⟨6, .textOnly .lateStoresUnsure⟩, ⟨7, .phase⟩], none⟩) rfl (fun K hK => ?_) AllReadyH.nil
  (have hq_ := hHeld; (try dsimp only at hq_))
  obtain ⟨⟨PL_2_2, PL_2_2'⟩, ⟨PE_2_2, PE_2_2'⟩, ⟨PN_2_2, PN_2_2'⟩, hF_2_2⟩ := hq_
  go_simp
  refine hK.out _ _ ?_ (fun hHeld => ?_)
  · (refine ⟨⟨by go_simp, by go_simp⟩, ⟨by go_simp, by go_simp⟩, ⟨by go_simp, by go_simp⟩, by go_simp⟩)
  clear hK K
  try simp only [Act.put, List.setIfInBounds_toArray, List.set_cons_zero, List.set_cons_succ]
  refine wpAnyH_take (i := 9) (oi := ⟨some 10, .assign (.tmp 108), 4, "vcpu.go:175", #[⟨6, .data⟩, ⟨8, .chain⟩, ⟨0, .phase⟩, ⟨1, .phase⟩, ⟨2, .phase⟩, ⟨3, .phase⟩, ⟨4, .phase⟩, ⟨5, .phase⟩, ⟨6, .phase⟩, ⟨7, .phase⟩, ⟨8, .phase⟩], none⟩) (v := ?_) rfl (by kernel_rfl) (by kernel_rfl) (by kernel_rfl) (fun _ _ _ h => h) (Or.inl ⟨by rfl, ?_⟩) (by assumption) ?_
  rotate_left
  · (intro w_ hS_; (try dsimp only at hS_); go_simp; try with_reducible rfl)
  try simp only [Act.put, List.setIfInBounds_toArray, List.set_cons_zero, List.set_cons_succ]
  refine wpAnyH_done (by kernel_rfl) ?_ _
  (try dsimp only at hHeld)
  go_split_ands
  go_wp2
  exact bodyPost_ret (resD _ rfl _ _ (x := false) (y := (-1)) (g := w.heap.size) rfl ⟨by go_simp, by go_simp⟩ rfl rfl) rfl ⟨rfl, ⟨by go_simp, by go_simp⟩, ⟨by go_simp, by go_simp⟩, by go_simp⟩
set_option maxRecDepth 100000 in
set_option maxHeartbeats 4000000 in
theorem do_r (g bl : Nat) (m p0 p1 : Int) (o0 o1 sp : Bool) (a b : Int) (n cc : Nat) (C : Array Value) (lost : Int)  (w : World) (hr : isRow w g) (hr' : rowAt w g = #[.int .i64 m, .int .i64 p0, .int .i64 p1, .bool o0, .bool o1, .bool sp, .int .u32 a, .int .u32 b, .slice (some ⟨bl, 0, none⟩) n cc, .int .i64 lost]) (hl : isRow w bl) (hl' : rowAt w bl = C) (hne : ¬ g = bl) (hne' : ¬ bl = g) (x y : Int) (hy : bits .and .u64 x 16777215 = y) (y0 : 0 ≤ y) (y1 : y ≤ 16777215) (r : Int) (t1 : (r == 1) = false) (t2 : (r == 2) = false) (t13 : (r == 13) = false) (t14 : (r == 14) = false) (id : Int) (ok : Bool) (HR : Hid (∀ W : World, Calls Try.prog 55 #[.agg #[.int .i64 m, .int .i64 p0, .int .i64 p1, .bool o0, .bool o1, .bool sp, .int .u32 a, .int .u32 b], .int .i64 r] W fun e w' => e = .returned (.tuple #[.int .u64 id, .bool ok]) ∧ Below W.heap.size W w')) :
    Calls Try.prog 28 #[.pointer (some ⟨g, 0, none⟩), .int .i64 r, .bool false, .int .u64 x] w fun e w' => e = .returned (.tuple #[.int .u64 id, .agg #[.bool false, .int .i64 (-1)], .bool ok]) ∧ Row w' g #[.int .i64 m, .int .i64 p0, .int .i64 p1, .bool o0, .bool o1, .bool sp, .int .u32 a, .int .u32 b, .slice (some ⟨bl, 0, none⟩) n cc, .int .i64 lost] ∧ Row w' bl C ∧ Aside2 g bl w w' := by
  have _u : True := by have _ := hne; have _ := hne'; have _ := y0; have _ := y1; trivial
  clear _u
  have hX : Aside2 g bl w w := .of_below (Below.refl _ _)
  have lr := hr.lt
  have ll := hl.lt
  have nr : ¬ g = w.heap.size := by omega
  have rn : ¬ w.heap.size = g := by omega
  have nl : ¬ bl = w.heap.size := by omega
  have ln : ¬ w.heap.size = bl := by omega
  have nr1 : ¬ g = w.heap.size + 1 := by omega
  have rn1 : ¬ w.heap.size + 1 = g := by omega
  have nl1 : ¬ bl = w.heap.size + 1 := by omega
  have ln1 : ¬ w.heap.size + 1 = bl := by omega
  have hB_0 : Below w.heap.size w w := Below.refl _ _
  have ne_V_E : ¬ g = w.heap.size := by omega
  have en_V_E : ¬ w.heap.size = g := by omega
  have ne_L_E : ¬ bl = w.heap.size := by omega
  have en_L_E : ¬ w.heap.size = bl := by omega
  have ne_V_N : ¬ g = (w.heap.size + 1) := by omega
  have en_V_N : ¬ (w.heap.size + 1) = g := by omega
  have ne_L_N : ¬ bl = (w.heap.size + 1) := by omega
  have en_L_N : ¬ (w.heap.size + 1) = bl := by omega
  have ne_E_N : ¬ w.heap.size = (w.heap.size + 1) := by omega
  have en_E_N : ¬ (w.heap.size + 1) = w.heap.size := by omega
  go_enter Try.func28, Try.ntmps28
  go_wp2_with fail
  refine (HR.out _).mono ?_
  rintro e v1 ⟨rfl, hb1⟩
  obtain ⟨V_1, V_1'⟩ : Row v1 g #[.int .i64 m, .int .i64 p0, .int .i64 p1, .bool o0, .bool o1, .bool sp, .int .u32 a, .int .u32 b, .slice (some ⟨bl, 0, none⟩) n cc, .int .i64 lost] := Row.step (by go_simp) (by go_simp) hb1
  obtain ⟨L_1, L_1'⟩ : Row v1 bl C := Row.step (by go_simp) (by go_simp) hb1
  obtain ⟨E_1, E_1'⟩ : Row v1 w.heap.size #[.bool false, .int .i64 0] := Row.step (by go_simp) (by go_simp) hb1
  obtain ⟨N_1, N_1'⟩ : Row v1 (w.heap.size + 1) #[.bool false, .int .i64 (-1)] := Row.step (by go_simp) (by go_simp) hb1
  have hB_1 : Aside2 g bl w v1 := Aside2.low (by go_simp) hb1
  clear hr hr' hl hl' hX hb1
  have hz_1 : w.heap.size ≤ v1.heap.size := hB_1.size
  have hl_V_1 := isRow.lt V_1
  have hl_L_1 := isRow.lt L_1
  have hl_E_1 := isRow.lt E_1
  have hl_N_1 := isRow.lt N_1
  go_wp2_with fail
  refine wp_named (fun W_ => (isRow W_ g ∧ rowAt W_ g = #[.int .i64 m, .int .i64 p0, .int .i64 p1, .bool o0, .bool o1, .bool sp, .int .u32 a, .int .u32 b, .slice (some ⟨bl, 0, none⟩) n cc, .int .i64 lost]) ∧ (isRow W_ bl ∧ rowAt W_ bl = C) ∧ (isRow W_ w.heap.size ∧ rowAt W_ w.heap.size = #[.bool false, .int .i64 0]) ∧ (isRow W_ (w.heap.size + 1) ∧ rowAt W_ (w.heap.size + 1) = #[.bool false, .int .i64 (-1)]) ∧ Aside2 g bl w W_) (by refine ⟨⟨by go_simp, by go_simp⟩, ⟨by go_simp, by go_simp⟩, ⟨by go_simp, by go_simp⟩, ⟨by go_simp, by go_simp⟩, by go_simp⟩) ?_
  rintro v2 ⟨⟨V_2, V_2'⟩, ⟨L_2, L_2'⟩, ⟨E_2, E_2'⟩, ⟨N_2, N_2'⟩, hB_2⟩
  clear V_1 V_1' L_1 L_1' E_1 E_1' N_1 N_1' hB_1
  have hz_2 : w.heap.size ≤ v2.heap.size := hB_2.size
  have hl_V_2 := isRow.lt V_2
  have hl_L_2 := isRow.lt L_2
  have hl_E_2 := isRow.lt E_2
  have hl_N_2 := isRow.lt N_2
  refine wp_region_held_drew (S := fun w' => (isRow w' g ∧ rowAt w' g = #[.int .i64 m, .int .i64 p0, .int .i64 p1, .bool o0, .bool o1, .bool sp, .int .u32 a, .int .u32 b, .slice (some ⟨bl, 0, none⟩) n cc, .int .i64 lost]) ∧ (isRow w' bl ∧ rowAt w' bl = C) ∧ (isRow w' w.heap.size ∧ (rowAt w' w.heap.size).size = 2) ∧ (isRow w' (w.heap.size + 1) ∧ rowAt w' (w.heap.size + 1) = #[.bool false, .int .i64 (-1)]) ∧ Aside2 g bl w w') (by kernel_rfl) ⟨⟨by go_simp, by go_simp⟩, ⟨by go_simp, by go_simp⟩, ⟨by go_simp, by go_simp⟩, ⟨by go_simp, by go_simp⟩, by go_simp⟩ (fun hHeld => ?_)
  refine wpAnyH_take (i := 0) (oi := ⟨some 118, .move (.tmp 13), 67, "vcpu.go:178", #[], none⟩) (v := ?_) rfl (by kernel_rfl) (by kernel_rfl) (by kernel_rfl) (fun _ _ _ h => h) (Or.inl ⟨by rfl, ?_⟩) (by assumption) ?_
  rotate_left
  · (intro w_ hS_; (try dsimp only at hS_); go_simp; try with_reducible rfl)
  try simp only [Act.put, List.setIfInBounds_toArray, List.set_cons_zero, List.set_cons_succ]
  refine wpAnyH_take (i := 1) (oi := ⟨some 119, .load 57 (.tmp 11), 57, "vcpu.go:178", #[⟨3, .gcOnly .lateStores⟩], none⟩) (v := ?_) rfl (by kernel_rfl) (by kernel_rfl) (by kernel_rfl) (fun _ _ _ h => h) (Or.inl ⟨by rfl, ?_⟩) (by assumption) ?_
  rotate_left
  · (intro w_ hS_; (try dsimp only at hS_); go_simp; try with_reducible rfl)
  try simp only [Act.put, List.setIfInBounds_toArray, List.set_cons_zero, List.set_cons_succ]
  refine wpAnyH_take (i := 2) (oi := ⟨some 120, .move (.tmp 14), 4, "vcpu.go:178", #[⟨4, .gcOnly .lateStores⟩], none⟩) (v := ?_) rfl (by kernel_rfl) (by kernel_rfl) (by kernel_rfl) (fun _ _ _ h => h) (Or.inl ⟨by rfl, ?_⟩) (by assumption) ?_
  rotate_left
  · (intro w_ hS_; (try dsimp only at hS_); go_simp; try with_reducible rfl)
  try simp only [Act.put, List.setIfInBounds_toArray, List.set_cons_zero, List.set_cons_succ]
  refine wpAnyH_take (i := 3) (oi := ⟨some 8, .assign (.tmp 118), 67, "vcpu.go:178", #[⟨0, .data⟩, ⟨0, .phase⟩, ⟨1, .textOnly .lateStores⟩, ⟨2, .textOnly .lateStores⟩], none⟩) (v := ?_) rfl (by kernel_rfl) (by kernel_rfl) (by kernel_rfl) (fun _ _ _ h => h) (Or.inl ⟨by rfl, ?_⟩) (by assumption) ?_
  rotate_left
  · (intro w_ hS_; (try dsimp only at hS_); go_simp; try with_reducible rfl)
  try simp only [Act.put, List.setIfInBounds_toArray, List.set_cons_zero, List.set_cons_succ]
  refine wpAnyH_ready (rs := [4]) (by kernel_rfl) (by simp) ?_
  refine AllReadyH.cons (o := ⟨none, .store 57 (.tmp 9) (.tmp 119), 0, "vcpu.go:178", #[⟨1, .data⟩, ⟨3, .chain⟩, ⟨0, .phase⟩, ⟨1, .phase⟩, ⟨2, .textOnly .lateStores⟩, ⟨3, .phase⟩], none⟩) rfl (fun K hK => ?_) AllReadyH.nil
  (have hq_ := hHeld; (try dsimp only at hq_))
  obtain ⟨⟨PV_3_1, PV_3_1'⟩, ⟨PL_3_1, PL_3_1'⟩, ⟨PE_3_1, PE_3_1'⟩, ⟨PN_3_1, PN_3_1'⟩, hF_3_1⟩ := hq_
  go_simp
  refine hK.out _ _ ?_ (fun hHeld => ?_)
  · (refine ⟨⟨by go_simp, by go_simp⟩, ⟨by go_simp, by go_simp⟩, ⟨by go_simp, by go_simp⟩, ⟨by go_simp, by go_simp⟩, by go_simp⟩)
  clear hK K
  try simp only [Act.put, List.setIfInBounds_toArray, List.set_cons_zero, List.set_cons_succ]
  refine wpAnyH_take (i := 5) (oi := ⟨some 10, .assign (.tmp 120), 4, "vcpu.go:178", #[⟨2, .data⟩, ⟨4, .chain⟩, ⟨0, .phase⟩, ⟨1, .phase⟩, ⟨2, .phase⟩, ⟨3, .phase⟩, ⟨4, .phase⟩], none⟩) (v := ?_) rfl (by kernel_rfl) (by kernel_rfl) (by kernel_rfl) (fun _ _ _ h => h) (Or.inl ⟨by rfl, ?_⟩) (by assumption) ?_
  rotate_left
  · (intro w_ hS_; (try dsimp only at hS_); go_simp; try with_reducible rfl)
  try simp only [Act.put, List.setIfInBounds_toArray, List.set_cons_zero, List.set_cons_succ]
  refine wpAnyH_done (by kernel_rfl) ?_ _
  (try dsimp only at hHeld)
  go_split_ands
  go_wp2
  exact bodyPost_ret (resD _ rfl _ _ (x := false) (y := (-1)) (g := w.heap.size) rfl ⟨by go_simp, by go_simp⟩ rfl rfl) rfl ⟨rfl, ⟨by go_simp, by go_simp⟩, ⟨by go_simp, by go_simp⟩, by go_simp⟩
end Go.Proofs.Ytkbaghblchlcnaa.Lr.Wd
namespace Go.Proofs.Ytkbaghblchlcnaa.Lr
open Go.RowKit Go.Shelf Go.Proofs.YtkbaghblchlcnaaW.PrintWords Go.Proofs.Ytkbaghblchlcnaa.IAll
theorem mkL (n : Nat) (h1 : 1 ≤ n) (h2 : n ≤ 16) (w : World) : (Instr.makeSlice 22 (.int .i64 (n : Int)) (.int .i64 (n : Int))).run Try.prog w = .ok (.slice (some ⟨w.heap.size, 0, none⟩) n n) (w.alloc (.cells (FA (List.replicate n z54)) 54)) := by
  rcases (show n = 1 ∨ n = 2 ∨ n = 3 ∨ n = 4 ∨ n = 5 ∨ n = 6 ∨ n = 7 ∨ n = 8 ∨ n = 9 ∨ n = 10 ∨ n = 11 ∨ n = 12 ∨ n = 13 ∨ n = 14 ∨ n = 15 ∨ n = 16 by omega) with rfl | rfl | rfl | rfl | rfl | rfl | rfl | rfl | rfl | rfl | rfl | rfl | rfl | rfl | rfl | rfl <;> kernel_rfl
attribute [local go_sem] Oper.semAt_some cell_row frozen_row isRow_setCell_eq rowAt_setCell_same rowAt_setCell_other isRow_alloc_eq rowAt_alloc rowAt_new rowAt_new' isRow_setRow_eq rowAt_setRow_same rowAt_setRow_other isRow_drew rowAt_drew size_setRow_ Lb_size Lb_at blk_ptr aggOf_agg below_alloc_e below_setCell_e below_setRow_e below_refl_e below_drew_r aside2_alloc_e aside2_setCell_e aside2_setRow_e aside2_drew_e aside2_refl_e aside2_drewN_e isRow_drewN rowAt_drewN below_drewN_e le_add_r offv_ptr one_lad zero_lad allOne_nil allOne_cons Value.oneCell' addr_at FA_size one_FA asideP_alloc_e asideP_setCell_e asideP_setRow_e asideP_drew_e asideP_drewN_e asideP_refl_e in4a in4b in4c in4d
attribute [local go_sem ↓] storeI storeC storeE storeLm
attribute [local go_sem] eq2i eq2b eq2u
set_option maxRecDepth 100000
theorem VNew_c (n : Nat) (h1 : 1 ≤ n) (h2 : n ≤ 16) (w : World) : Calls Try.prog 12 #[.int .i64 (n : Int)] w fun e w' => e = .returned (.tuple #[.pointer (some ⟨w.heap.size + 1, 0, none⟩), .int .i64 0]) ∧ Row w' (w.heap.size + 1) (vrow n w.heap.size ⟨0, 0, 0, false, false, false, 0, 0, List.replicate n z54, 0⟩) ∧ Row w' w.heap.size (FA (List.replicate n z54)) ∧ Below w.heap.size w w' := by
  have hB := Below.refl w.heap.size w
  have hm := fun w => mkL n h1 h2 w
  have e1 : ¬ (n : Int) < 1 := by omega
  have e2 : ¬ (16 : Int) < n := by omega
  go_enter Try.func12, Try.ntmps12
  go_wp2
  go_ret2
  exact ⟨rfl, ⟨by go_simp, by unfold vrow; go_simp⟩, ⟨by go_simp, by go_simp⟩, by go_simp⟩
end Go.Proofs.Ytkbaghblchlcnaa.Lr
