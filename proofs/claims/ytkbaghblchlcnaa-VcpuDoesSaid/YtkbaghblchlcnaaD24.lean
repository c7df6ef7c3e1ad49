/- Texts of this claim, put together: Uh. -/
import Derived.Test.YtkbaghblchlcnaaD23
namespace Go.Proofs.Ytkbaghblchlcnaa.Lr.Wd
open Go.RowKit Go.Shelf Go.Proofs.YtkbaghblchlcnaaW.PrintWords Go.Proofs.Ytkbaghblchlcnaa.IAll
attribute [local go_sem] Oper.semAt_some cell_row frozen_row isRow_setCell_eq rowAt_setCell_same rowAt_setCell_other isRow_alloc_eq rowAt_alloc rowAt_new rowAt_new' isRow_setRow_eq rowAt_setRow_same rowAt_setRow_other isRow_drew rowAt_drew size_setRow_ Lb_size Lb_at blk_ptr aggOf_agg below_alloc_e below_setCell_e below_setRow_e below_refl_e below_drew_r aside2_alloc_e aside2_setCell_e aside2_setRow_e aside2_drew_e aside2_refl_e aside2_drewN_e isRow_drewN rowAt_drewN below_drewN_e le_add_r offv_ptr one_lad zero_lad allOne_nil allOne_cons Value.oneCell' addr_at FA_size one_FA RV_size RV_get70 RV_get71 RV_at70 RV_at71 RV_at5 RV_low RV_set71 RV_ext RV_spl RC_size zeroF zero_rc zero_rc2 RC_one
attribute [local go_sem ↓] storeI storeC storeE loadF0 storeF0 loadF storeF
attribute [local go_sem] eq2i eq2b eq2u
set_option maxRecDepth 100000 in
set_option maxHeartbeats 2000000 in
theorem eoi_1 (g bl : Nat) (m p0 p1 : Int) (o0 o1 sp : Bool) (a b : Int) (n cc : Nat) (C : Array Value) (lost gp id : Int) (w : World) (hr : isRow w g) (hr' : rowAt w g = #[.int .i64 m, .int .i64 p0, .int .i64 p1, .bool o0, .bool o1, .bool sp, .int .u32 a, .int .u32 b, .slice (some ⟨bl, 0, none⟩) n cc, .int .i64 lost]) (hl : isRow w bl) (hl' : rowAt w bl = C) (hne : ¬ g = bl) (hne' : ¬ bl = g) (HR : Hid (∀ W : World, Calls Try.prog 47 #[.int .i64 id] W fun e w' => e = .returned (.bool false) ∧ Below W.heap.size W w')) :
    Calls Try.prog 23 #[.pointer (some ⟨g, 0, none⟩), .int .i64 gp, .int .i64 id] w fun e w' => e = .returned (.agg #[.bool false, .int .i64 (-1)]) ∧ Row w' g #[.int .i64 m, .int .i64 p0, .int .i64 p1, .bool o0, .bool o1, .bool sp, .int .u32 a, .int .u32 b, .slice (some ⟨bl, 0, none⟩) n cc, .int .i64 lost] ∧ Row w' bl C ∧ Aside2 g bl w w' := by
  have _u : True := by have _ := hne; have _ := hne'; trivial
  clear _u
  have hX : Aside2 g bl w w := .of_below (Below.refl _ _)
  have lr := hr.lt
  have ll := hl.lt
  have nr : ¬ g = w.heap.size := by omega
  have rn : ¬ w.heap.size = g := by omega
  have nl : ¬ bl = w.heap.size := by omega
  have ln : ¬ w.heap.size = bl := by omega
  have hB_0 : Below w.heap.size w w := Below.refl _ _
  have ne_V_E : ¬ g = w.heap.size := by omega
  have en_V_E : ¬ w.heap.size = g := by omega
  have ne_L_E : ¬ bl = w.heap.size := by omega
  have en_L_E : ¬ w.heap.size = bl := by omega
  go_enter Try.func23, Try.ntmps23
  go_wp2_with fail
  refine (HR.out _).mono ?_
  rintro e v1 ⟨rfl, hb1⟩
  obtain ⟨V_1, V_1'⟩ : Row v1 g #[.int .i64 m, .int .i64 p0, .int .i64 p1, .bool o0, .bool o1, .bool sp, .int .u32 a, .int .u32 b, .slice (some ⟨bl, 0, none⟩) n cc, .int .i64 lost] := Row.step (by go_simp) (by go_simp) hb1
  obtain ⟨L_1, L_1'⟩ : Row v1 bl C := Row.step (by go_simp) (by go_simp) hb1
  obtain ⟨E_1, E_1'⟩ : Row v1 w.heap.size #[.bool false, .int .i64 0] := Row.step (by go_simp) (by go_simp) hb1
  have hB_1 : Aside2 g bl w v1 := Aside2.low (by go_simp) hb1
  clear hr hr' hl hl' hX hb1
  have hz_1 : w.heap.size ≤ v1.heap.size := hB_1.size
  have hl_V_1 := isRow.lt V_1
  have ne_V_1_0 : ¬ g = v1.heap.size := by omega
  have en_V_1_0 : ¬ v1.heap.size = g := by omega
  have hl_L_1 := isRow.lt L_1
  have ne_L_1_0 : ¬ bl = v1.heap.size := by omega
  have en_L_1_0 : ¬ v1.heap.size = bl := by omega
  have hl_E_1 := isRow.lt E_1
  have ne_E_1_0 : ¬ w.heap.size = v1.heap.size := by omega
  have en_E_1_0 : ¬ v1.heap.size = w.heap.size := by omega
  go_wp2
  exact bodyPost_ret (resE _ rfl _ _ w.heap.size false (-1) rfl ⟨by go_simp, by go_simp⟩) rfl ⟨rfl, ⟨by go_simp, by go_simp⟩, ⟨by go_simp, by go_simp⟩, by go_simp⟩
set_option maxRecDepth 100000 in
set_option maxHeartbeats 2000000 in
theorem eoi_2 (g bl : Nat) (m p0 p1 : Int) (o0 o1 sp : Bool) (a b : Int) (n cc : Nat) (C : Array Value) (lost gp id : Int) (w : World) (hr : isRow w g) (hr' : rowAt w g = #[.int .i64 m, .int .i64 p0, .int .i64 p1, .bool o0, .bool o1, .bool sp, .int .u32 a, .int .u32 b, .slice (some ⟨bl, 0, none⟩) n cc, .int .i64 lost]) (hl : isRow w bl) (hl' : rowAt w bl = C) (hne : ¬ g = bl) (hne' : ¬ bl = g) (HR : Hid (∀ W : World, Calls Try.prog 47 #[.int .i64 id] W fun e w' => e = .returned (.bool true) ∧ Below W.heap.size W w')) (HD : Hid (∀ W : World, isRow W g → rowAt W g = #[.int .i64 m, .int .i64 p0, .int .i64 p1, .bool o0, .bool o1, .bool sp, .int .u32 a, .int .u32 b, .slice (some ⟨bl, 0, none⟩) n cc, .int .i64 lost] → Calls Try.prog 48 #[.pointer (some ⟨g, 0, none⟩), .int .i64 gp] W fun e w' => e = .returned (.bool false) ∧ Row w' g #[.int .i64 m, .int .i64 p0, .int .i64 p1, .bool o0, .bool o1, .bool sp, .int .u32 a, .int .u32 b, .slice (some ⟨bl, 0, none⟩) n cc, .int .i64 lost] ∧ Aside g W w')) :
    Calls Try.prog 23 #[.pointer (some ⟨g, 0, none⟩), .int .i64 gp, .int .i64 id] w fun e w' => e = .returned (.agg #[.bool false, .int .i64 (-1)]) ∧ Row w' g #[.int .i64 m, .int .i64 p0, .int .i64 p1, .bool o0, .bool o1, .bool sp, .int .u32 a, .int .u32 b, .slice (some ⟨bl, 0, none⟩) n cc, .int .i64 lost] ∧ Row w' bl C ∧ Aside2 g bl w w' := by
  have _u : True := by have _ := hne; have _ := hne'; trivial
  clear _u
  have hX : Aside2 g bl w w := .of_below (Below.refl _ _)
  have lr := hr.lt
  have ll := hl.lt
  have nr : ¬ g = w.heap.size := by omega
  have rn : ¬ w.heap.size = g := by omega
  have nl : ¬ bl = w.heap.size := by omega
  have ln : ¬ w.heap.size = bl := by omega
  have hB_0 : Below w.heap.size w w := Below.refl _ _
  have ne_V_E : ¬ g = w.heap.size := by omega
  have en_V_E : ¬ w.heap.size = g := by omega
  have ne_L_E : ¬ bl = w.heap.size := by omega
  have en_L_E : ¬ w.heap.size = bl := by omega
  go_enter Try.func23, Try.ntmps23
  go_wp2_with fail
  refine (HR.out _).mono ?_
  rintro e v1 ⟨rfl, hb1⟩
  obtain ⟨V_1, V_1'⟩ : Row v1 g #[.int .i64 m, .int .i64 p0, .int .i64 p1, .bool o0, .bool o1, .bool sp, .int .u32 a, .int .u32 b, .slice (some ⟨bl, 0, none⟩) n cc, .int .i64 lost] := Row.step (by go_simp) (by go_simp) hb1
  obtain ⟨L_1, L_1'⟩ : Row v1 bl C := Row.step (by go_simp) (by go_simp) hb1
  obtain ⟨E_1, E_1'⟩ : Row v1 w.heap.size #[.bool false, .int .i64 0] := Row.step (by go_simp) (by go_simp) hb1
  have hB_1 : Aside2 g bl w v1 := Aside2.low (by go_simp) hb1
  clear hr hr' hl hl' hX hb1
  have hz_1 : w.heap.size ≤ v1.heap.size := hB_1.size
  have hl_V_1 := isRow.lt V_1
  have ne_V_1_0 : ¬ g = v1.heap.size := by omega
  have en_V_1_0 : ¬ v1.heap.size = g := by omega
  have hl_L_1 := isRow.lt L_1
  have ne_L_1_0 : ¬ bl = v1.heap.size := by omega
  have en_L_1_0 : ¬ v1.heap.size = bl := by omega
  have hl_E_1 := isRow.lt E_1
  have ne_E_1_0 : ¬ w.heap.size = v1.heap.size := by omega
  have en_E_1_0 : ¬ v1.heap.size = w.heap.size := by omega
  go_wp2_with fail
  refine (HD.out _ (by go_simp) (by go_simp)).mono ?_
  rintro e v2 ⟨rfl, ⟨V_2, V_2'⟩, hA2⟩
  obtain ⟨L_2, L_2'⟩ : Row v2 bl C := hA2.row ⟨by go_simp, by go_simp⟩ (by omega)
  obtain ⟨E_2, E_2'⟩ : Row v2 w.heap.size #[.bool false, .int .i64 0] := hA2.row ⟨by go_simp, by go_simp⟩ (by omega)
  have hB_2 : Aside2 g bl w v2 := Aside2.trans (by go_simp) (Aside2.left hA2)
  clear V_1 V_1' L_1 L_1' E_1 E_1' hB_1 hA2
  have hz_2 : w.heap.size ≤ v2.heap.size := hB_2.size
  have hl_V_2 := isRow.lt V_2
  have ne_V_2_0 : ¬ g = v2.heap.size := by omega
  have en_V_2_0 : ¬ v2.heap.size = g := by omega
  have hl_L_2 := isRow.lt L_2
  have ne_L_2_0 : ¬ bl = v2.heap.size := by omega
  have en_L_2_0 : ¬ v2.heap.size = bl := by omega
  have hl_E_2 := isRow.lt E_2
  have ne_E_2_0 : ¬ w.heap.size = v2.heap.size := by omega
  have en_E_2_0 : ¬ v2.heap.size = w.heap.size := by omega
  go_wp2
  exact bodyPost_ret (resE _ rfl _ _ w.heap.size false (-1) rfl ⟨by go_simp, by go_simp⟩) rfl ⟨rfl, ⟨by go_simp, by go_simp⟩, ⟨by go_simp, by go_simp⟩, by go_simp⟩
set_option maxRecDepth 100000 in
set_option maxHeartbeats 2000000 in
theorem eoi_3 (g bl : Nat) (m p0 p1 : Int) (o0 o1 : Bool) (a b a' b' : Int) (n cc : Nat) (C : Array Value) (lost gp id : Int) (w : World) (hr : isRow w g) (hr' : rowAt w g = #[.int .i64 m, .int .i64 p0, .int .i64 p1, .bool o0, .bool o1, .bool true, .int .u32 a, .int .u32 b, .slice (some ⟨bl, 0, none⟩) n cc, .int .i64 lost]) (hl : isRow w bl) (hl' : rowAt w bl = C) (hne : ¬ g = bl) (hne' : ¬ bl = g) (HR : Hid (∀ W : World, Calls Try.prog 47 #[.int .i64 id] W fun e w' => e = .returned (.bool true) ∧ Below W.heap.size W w')) (HD : Hid (∀ W : World, isRow W g → rowAt W g = #[.int .i64 m, .int .i64 p0, .int .i64 p1, .bool o0, .bool o1, .bool true, .int .u32 a, .int .u32 b, .slice (some ⟨bl, 0, none⟩) n cc, .int .i64 lost] → Calls Try.prog 48 #[.pointer (some ⟨g, 0, none⟩), .int .i64 gp] W fun e w' => e = .returned (.bool true) ∧ Row w' g #[.int .i64 m, .int .i64 p0, .int .i64 p1, .bool o0, .bool o1, .bool true, .int .u32 a', .int .u32 b', .slice (some ⟨bl, 0, none⟩) n cc, .int .i64 lost] ∧ Aside g W w')) :
    Calls Try.prog 23 #[.pointer (some ⟨g, 0, none⟩), .int .i64 gp, .int .i64 id] w fun e w' => e = .returned (.agg #[.bool false, .int .i64 (-1)]) ∧ Row w' g #[.int .i64 m, .int .i64 p0, .int .i64 p1, .bool o0, .bool o1, .bool true, .int .u32 a', .int .u32 b', .slice (some ⟨bl, 0, none⟩) n cc, .int .i64 lost] ∧ Row w' bl C ∧ Aside2 g bl w w' := by
  have _u : True := by have _ := hne; have _ := hne'; trivial
  clear _u
  have hX : Aside2 g bl w w := .of_below (Below.refl _ _)
  have lr := hr.lt
  have ll := hl.lt
  have nr : ¬ g = w.heap.size := by omega
  have rn : ¬ w.heap.size = g := by omega
  have nl : ¬ bl = w.heap.size := by omega
  have ln : ¬ w.heap.size = bl := by omega
  have hB_0 : Below w.heap.size w w := Below.refl _ _
  have ne_V_E : ¬ g = w.heap.size := by omega
  have en_V_E : ¬ w.heap.size = g := by omega
  have ne_L_E : ¬ bl = w.heap.size := by omega
  have en_L_E : ¬ w.heap.size = bl := by omega
  go_enter Try.func23, Try.ntmps23
  go_wp2_with fail
  refine (HR.out _).mono ?_
  rintro e v1 ⟨rfl, hb1⟩
  obtain ⟨V_1, V_1'⟩ : Row v1 g #[.int .i64 m, .int .i64 p0, .int .i64 p1, .bool o0, .bool o1, .bool true, .int .u32 a, .int .u32 b, .slice (some ⟨bl, 0, none⟩) n cc, .int .i64 lost] := Row.step (by go_simp) (by go_simp) hb1
  obtain ⟨L_1, L_1'⟩ : Row v1 bl C := Row.step (by go_simp) (by go_simp) hb1
  obtain ⟨E_1, E_1'⟩ : Row v1 w.heap.size #[.bool false, .int .i64 0] := Row.step (by go_simp) (by go_simp) hb1
  have hB_1 : Aside2 g bl w v1 := Aside2.low (by go_simp) hb1
  clear hr hr' hl hl' hX hb1
  have hz_1 : w.heap.size ≤ v1.heap.size := hB_1.size
  have hl_V_1 := isRow.lt V_1
  have ne_V_1_0 : ¬ g = v1.heap.size := by omega
  have en_V_1_0 : ¬ v1.heap.size = g := by omega
  have hl_L_1 := isRow.lt L_1
  have ne_L_1_0 : ¬ bl = v1.heap.size := by omega
  have en_L_1_0 : ¬ v1.heap.size = bl := by omega
  have hl_E_1 := isRow.lt E_1
  have ne_E_1_0 : ¬ w.heap.size = v1.heap.size := by omega
  have en_E_1_0 : ¬ v1.heap.size = w.heap.size := by omega
  go_wp2_with fail
  refine (HD.out _ (by go_simp) (by go_simp)).mono ?_
  rintro e v2 ⟨rfl, ⟨V_2, V_2'⟩, hA2⟩
  obtain ⟨L_2, L_2'⟩ : Row v2 bl C := hA2.row ⟨by go_simp, by go_simp⟩ (by omega)
  obtain ⟨E_2, E_2'⟩ : Row v2 w.heap.size #[.bool false, .int .i64 0] := hA2.row ⟨by go_simp, by go_simp⟩ (by omega)
  have hB_2 : Aside2 g bl w v2 := Aside2.trans (by go_simp) (Aside2.left hA2)
  clear V_1 V_1' L_1 L_1' E_1 E_1' hB_1 hA2
  have hz_2 : w.heap.size ≤ v2.heap.size := hB_2.size
  have hl_V_2 := isRow.lt V_2
  have ne_V_2_0 : ¬ g = v2.heap.size := by omega
  have en_V_2_0 : ¬ v2.heap.size = g := by omega
  have hl_L_2 := isRow.lt L_2
  have ne_L_2_0 : ¬ bl = v2.heap.size := by omega
  have en_L_2_0 : ¬ v2.heap.size = bl := by omega
  have hl_E_2 := isRow.lt E_2
  have ne_E_2_0 : ¬ w.heap.size = v2.heap.size := by omega
  have en_E_2_0 : ¬ v2.heap.size = w.heap.size := by omega
  go_wp2
  exact bodyPost_ret (resE _ rfl _ _ w.heap.size false (-1) rfl ⟨by go_simp, by go_simp⟩) rfl ⟨rfl, ⟨by go_simp, by go_simp⟩, ⟨by go_simp, by go_simp⟩, by go_simp⟩
set_option maxRecDepth 100000 in
set_option maxHeartbeats 2000000 in
theorem eoi_4 (g bl : Nat) (m p0 p1 : Int) (o0 o1 : Bool) (a b a' b' : Int) (n cc : Nat) (C C' : Array Value) (lost lost' mm gp id : Int) (ok : Bool) (w : World) (hr : isRow w g) (hr' : rowAt w g = #[.int .i64 m, .int .i64 p0, .int .i64 p1, .bool o0, .bool o1, .bool false, .int .u32 a, .int .u32 b, .slice (some ⟨bl, 0, none⟩) n cc, .int .i64 lost]) (hl : isRow w bl) (hl' : rowAt w bl = C) (hne : ¬ g = bl) (hne' : ¬ bl = g) (HR : Hid (∀ W : World, Calls Try.prog 47 #[.int .i64 id] W fun e w' => e = .returned (.bool true) ∧ Below W.heap.size W w')) (HD : Hid (∀ W : World, isRow W g → rowAt W g = #[.int .i64 m, .int .i64 p0, .int .i64 p1, .bool o0, .bool o1, .bool false, .int .u32 a, .int .u32 b, .slice (some ⟨bl, 0, none⟩) n cc, .int .i64 lost] → Calls Try.prog 48 #[.pointer (some ⟨g, 0, none⟩), .int .i64 gp] W fun e w' => e = .returned (.bool true) ∧ Row w' g #[.int .i64 m, .int .i64 p0, .int .i64 p1, .bool o0, .bool o1, .bool false, .int .u32 a', .int .u32 b', .slice (some ⟨bl, 0, none⟩) n cc, .int .i64 lost] ∧ Aside g W w')) (HE : Hid (∀ W : World, isRow W g → rowAt W g = #[.int .i64 m, .int .i64 p0, .int .i64 p1, .bool o0, .bool o1, .bool false, .int .u32 a', .int .u32 b', .slice (some ⟨bl, 0, none⟩) n cc, .int .i64 lost] → isRow W bl → rowAt W bl = C → Calls Try.prog 49 #[.pointer (some ⟨g, 0, none⟩), .int .i64 id] W fun e w' => e = .returned (.agg #[.bool ok, .int .i64 mm]) ∧ Row w' g #[.int .i64 m, .int .i64 p0, .int .i64 p1, .bool o0, .bool o1, .bool false, .int .u32 a', .int .u32 b', .slice (some ⟨bl, 0, none⟩) n cc, .int .i64 lost'] ∧ Row w' bl C' ∧ Aside2 g bl W w')) :
    Calls Try.prog 23 #[.pointer (some ⟨g, 0, none⟩), .int .i64 gp, .int .i64 id] w fun e w' => e = .returned (.agg #[.bool ok, .int .i64 mm]) ∧ Row w' g #[.int .i64 m, .int .i64 p0, .int .i64 p1, .bool o0, .bool o1, .bool false, .int .u32 a', .int .u32 b', .slice (some ⟨bl, 0, none⟩) n cc, .int .i64 lost'] ∧ Row w' bl C' ∧ Aside2 g bl w w' := by
  have _u : True := by have _ := hne; have _ := hne'; trivial
  clear _u
  have hX : Aside2 g bl w w := .of_below (Below.refl _ _)
  have lr := hr.lt
  have ll := hl.lt
  have nr : ¬ g = w.heap.size := by omega
  have rn : ¬ w.heap.size = g := by omega
  have nl : ¬ bl = w.heap.size := by omega
  have ln : ¬ w.heap.size = bl := by omega
  have hB_0 : Below w.heap.size w w := Below.refl _ _
  have ne_V_E : ¬ g = w.heap.size := by omega
  have en_V_E : ¬ w.heap.size = g := by omega
  have ne_L_E : ¬ bl = w.heap.size := by omega
  have en_L_E : ¬ w.heap.size = bl := by omega
  go_enter Try.func23, Try.ntmps23
  go_wp2_with fail
  refine (HR.out _).mono ?_
  rintro e v1 ⟨rfl, hb1⟩
  obtain ⟨V_1, V_1'⟩ : Row v1 g #[.int .i64 m, .int .i64 p0, .int .i64 p1, .bool o0, .bool o1, .bool false, .int .u32 a, .int .u32 b, .slice (some ⟨bl, 0, none⟩) n cc, .int .i64 lost] := Row.step (by go_simp) (by go_simp) hb1
  obtain ⟨L_1, L_1'⟩ : Row v1 bl C := Row.step (by go_simp) (by go_simp) hb1
  obtain ⟨E_1, E_1'⟩ : Row v1 w.heap.size #[.bool false, .int .i64 0] := Row.step (by go_simp) (by go_simp) hb1
  have hB_1 : Aside2 g bl w v1 := Aside2.low (by go_simp) hb1
  clear hr hr' hl hl' hX hb1
  have hz_1 : w.heap.size ≤ v1.heap.size := hB_1.size
  have hl_V_1 := isRow.lt V_1
  have ne_V_1_0 : ¬ g = v1.heap.size := by omega
  have en_V_1_0 : ¬ v1.heap.size = g := by omega
  have hl_L_1 := isRow.lt L_1
  have ne_L_1_0 : ¬ bl = v1.heap.size := by omega
  have en_L_1_0 : ¬ v1.heap.size = bl := by omega
  have hl_E_1 := isRow.lt E_1
  have ne_E_1_0 : ¬ w.heap.size = v1.heap.size := by omega
  have en_E_1_0 : ¬ v1.heap.size = w.heap.size := by omega
  go_wp2_with fail
  refine (HD.out _ (by go_simp) (by go_simp)).mono ?_
  rintro e v2 ⟨rfl, ⟨V_2, V_2'⟩, hA2⟩
  obtain ⟨L_2, L_2'⟩ : Row v2 bl C := hA2.row ⟨by go_simp, by go_simp⟩ (by omega)
  obtain ⟨E_2, E_2'⟩ : Row v2 w.heap.size #[.bool false, .int .i64 0] := hA2.row ⟨by go_simp, by go_simp⟩ (by omega)
  have hB_2 : Aside2 g bl w v2 := Aside2.trans (by go_simp) (Aside2.left hA2)
  clear V_1 V_1' L_1 L_1' E_1 E_1' hB_1 hA2
  have hz_2 : w.heap.size ≤ v2.heap.size := hB_2.size
  have hl_V_2 := isRow.lt V_2
  have ne_V_2_0 : ¬ g = v2.heap.size := by omega
  have en_V_2_0 : ¬ v2.heap.size = g := by omega
  have hl_L_2 := isRow.lt L_2
  have ne_L_2_0 : ¬ bl = v2.heap.size := by omega
  have en_L_2_0 : ¬ v2.heap.size = bl := by omega
  have hl_E_2 := isRow.lt E_2
  have ne_E_2_0 : ¬ w.heap.size = v2.heap.size := by omega
  have en_E_2_0 : ¬ v2.heap.size = w.heap.size := by omega
  go_wp2_with fail
  refine (HE.out _ (by go_simp) (by go_simp) (by go_simp) (by go_simp)).mono ?_
  rintro e v3 ⟨rfl, ⟨V_3, V_3'⟩, ⟨L_3, L_3'⟩, hA3⟩
  obtain ⟨E_3, E_3'⟩ : Row v3 w.heap.size #[.bool false, .int .i64 0] := hA3.row ⟨by go_simp, by go_simp⟩ (by omega) (by omega)
  have hB_3 : Aside2 g bl w v3 := Aside2.trans (by go_simp) hA3
  clear V_2 V_2' L_2 L_2' E_2 E_2' hB_2 hA3
  have hz_3 : w.heap.size ≤ v3.heap.size := hB_3.size
  have hl_V_3 := isRow.lt V_3
  have ne_V_3_0 : ¬ g = v3.heap.size := by omega
  have en_V_3_0 : ¬ v3.heap.size = g := by omega
  have hl_L_3 := isRow.lt L_3
  have ne_L_3_0 : ¬ bl = v3.heap.size := by omega
  have en_L_3_0 : ¬ v3.heap.size = bl := by omega
  have hl_E_3 := isRow.lt E_3
  have ne_E_3_0 : ¬ w.heap.size = v3.heap.size := by omega
  have en_E_3_0 : ¬ v3.heap.size = w.heap.size := by omega
  go_wp2
  exact bodyPost_ret (resE _ rfl _ _ w.heap.size ok mm rfl ⟨by go_simp, by go_simp⟩) rfl ⟨rfl, ⟨by go_simp, by go_simp⟩, ⟨by go_simp, by go_simp⟩, by go_simp⟩
set_option maxRecDepth 100000 in
set_option maxHeartbeats 2000000 in
theorem dir_1 (g bl : Nat) (m p0 p1 : Int) (o0 o1 sp : Bool) (a b : Int) (n cc : Nat) (C : Array Value) (lost id : Int) (w : World) (hr : isRow w g) (hr' : rowAt w g = #[.int .i64 m, .int .i64 p0, .int .i64 p1, .bool o0, .bool o1, .bool sp, .int .u32 a, .int .u32 b, .slice (some ⟨bl, 0, none⟩) n cc, .int .i64 lost]) (hl : isRow w bl) (hl' : rowAt w bl = C) (hne : ¬ g = bl) (hne' : ¬ bl = g) (HR : Hid (∀ W : World, Calls Try.prog 47 #[.int .i64 id] W fun e w' => e = .returned (.bool false) ∧ Below W.heap.size W w')) :
    Calls Try.prog 24 #[.pointer (some ⟨g, 0, none⟩), .int .i64 id] w fun e w' => e = .returned (.agg #[.bool false, .int .i64 (-1)]) ∧ Row w' g #[.int .i64 m, .int .i64 p0, .int .i64 p1, .bool o0, .bool o1, .bool sp, .int .u32 a, .int .u32 b, .slice (some ⟨bl, 0, none⟩) n cc, .int .i64 lost] ∧ Row w' bl C ∧ Aside2 g bl w w' := by
  have _u : True := by have _ := hne; have _ := hne'; trivial
  clear _u
  have hX : Aside2 g bl w w := .of_below (Below.refl _ _)
  have lr := hr.lt
  have ll := hl.lt
  have nr : ¬ g = w.heap.size := by omega
  have rn : ¬ w.heap.size = g := by omega
  have nl : ¬ bl = w.heap.size := by omega
  have ln : ¬ w.heap.size = bl := by omega
  have hB_0 : Below w.heap.size w w := Below.refl _ _
  have ne_V_E : ¬ g = w.heap.size := by omega
  have en_V_E : ¬ w.heap.size = g := by omega
  have ne_L_E : ¬ bl = w.heap.size := by omega
  have en_L_E : ¬ w.heap.size = bl := by omega
  go_enter Try.func24, Try.ntmps24
  go_wp2_with fail
  refine (HR.out _).mono ?_
  rintro e v1 ⟨rfl, hb1⟩
  obtain ⟨V_1, V_1'⟩ : Row v1 g #[.int .i64 m, .int .i64 p0, .int .i64 p1, .bool o0, .bool o1, .bool sp, .int .u32 a, .int .u32 b, .slice (some ⟨bl, 0, none⟩) n cc, .int .i64 lost] := Row.step (by go_simp) (by go_simp) hb1
  obtain ⟨L_1, L_1'⟩ : Row v1 bl C := Row.step (by go_simp) (by go_simp) hb1
  obtain ⟨E_1, E_1'⟩ : Row v1 w.heap.size #[.bool false, .int .i64 0] := Row.step (by go_simp) (by go_simp) hb1
  have hB_1 : Aside2 g bl w v1 := Aside2.low (by go_simp) hb1
  clear hr hr' hl hl' hX hb1
  have hz_1 : w.heap.size ≤ v1.heap.size := hB_1.size
  have hl_V_1 := isRow.lt V_1
  have ne_V_1_0 : ¬ g = v1.heap.size := by omega
  have en_V_1_0 : ¬ v1.heap.size = g := by omega
  have hl_L_1 := isRow.lt L_1
  have ne_L_1_0 : ¬ bl = v1.heap.size := by omega
  have en_L_1_0 : ¬ v1.heap.size = bl := by omega
  have hl_E_1 := isRow.lt E_1
  have ne_E_1_0 : ¬ w.heap.size = v1.heap.size := by omega
  have en_E_1_0 : ¬ v1.heap.size = w.heap.size := by omega
  go_wp2
  exact bodyPost_ret (resE _ rfl _ _ w.heap.size false (-1) rfl ⟨by go_simp, by go_simp⟩) rfl ⟨rfl, ⟨by go_simp, by go_simp⟩, ⟨by go_simp, by go_simp⟩, by go_simp⟩
set_option maxRecDepth 100000 in
set_option maxHeartbeats 2000000 in
theorem dir_2 (g bl : Nat) (m p0 p1 : Int) (o0 o1 : Bool) (a b : Int) (n cc : Nat) (C : Array Value) (lost id : Int) (w : World) (hr : isRow w g) (hr' : rowAt w g = #[.int .i64 m, .int .i64 p0, .int .i64 p1, .bool o0, .bool o1, .bool false, .int .u32 a, .int .u32 b, .slice (some ⟨bl, 0, none⟩) n cc, .int .i64 lost]) (hl : isRow w bl) (hl' : rowAt w bl = C) (hne : ¬ g = bl) (hne' : ¬ bl = g) (HR : Hid (∀ W : World, Calls Try.prog 47 #[.int .i64 id] W fun e w' => e = .returned (.bool true) ∧ Below W.heap.size W w')) :
    Calls Try.prog 24 #[.pointer (some ⟨g, 0, none⟩), .int .i64 id] w fun e w' => e = .returned (.agg #[.bool false, .int .i64 (-1)]) ∧ Row w' g #[.int .i64 m, .int .i64 p0, .int .i64 p1, .bool o0, .bool o1, .bool false, .int .u32 a, .int .u32 b, .slice (some ⟨bl, 0, none⟩) n cc, .int .i64 lost] ∧ Row w' bl C ∧ Aside2 g bl w w' := by
  have _u : True := by have _ := hne; have _ := hne'; trivial
  clear _u
  have hX : Aside2 g bl w w := .of_below (Below.refl _ _)
  have lr := hr.lt
  have ll := hl.lt
  have nr : ¬ g = w.heap.size := by omega
  have rn : ¬ w.heap.size = g := by omega
  have nl : ¬ bl = w.heap.size := by omega
  have ln : ¬ w.heap.size = bl := by omega
  have hB_0 : Below w.heap.size w w := Below.refl _ _
  have ne_V_E : ¬ g = w.heap.size := by omega
  have en_V_E : ¬ w.heap.size = g := by omega
  have ne_L_E : ¬ bl = w.heap.size := by omega
  have en_L_E : ¬ w.heap.size = bl := by omega
  go_enter Try.func24, Try.ntmps24
  go_wp2_with fail
  refine (HR.out _).mono ?_
  rintro e v1 ⟨rfl, hb1⟩
  obtain ⟨V_1, V_1'⟩ : Row v1 g #[.int .i64 m, .int .i64 p0, .int .i64 p1, .bool o0, .bool o1, .bool false, .int .u32 a, .int .u32 b, .slice (some ⟨bl, 0, none⟩) n cc, .int .i64 lost] := Row.step (by go_simp) (by go_simp) hb1
  obtain ⟨L_1, L_1'⟩ : Row v1 bl C := Row.step (by go_simp) (by go_simp) hb1
  obtain ⟨E_1, E_1'⟩ : Row v1 w.heap.size #[.bool false, .int .i64 0] := Row.step (by go_simp) (by go_simp) hb1
  have hB_1 : Aside2 g bl w v1 := Aside2.low (by go_simp) hb1
  clear hr hr' hl hl' hX hb1
  have hz_1 : w.heap.size ≤ v1.heap.size := hB_1.size
  have hl_V_1 := isRow.lt V_1
  have ne_V_1_0 : ¬ g = v1.heap.size := by omega
  have en_V_1_0 : ¬ v1.heap.size = g := by omega
  have hl_L_1 := isRow.lt L_1
  have ne_L_1_0 : ¬ bl = v1.heap.size := by omega
  have en_L_1_0 : ¬ v1.heap.size = bl := by omega
  have hl_E_1 := isRow.lt E_1
  have ne_E_1_0 : ¬ w.heap.size = v1.heap.size := by omega
  have en_E_1_0 : ¬ v1.heap.size = w.heap.size := by omega
  go_wp2
  exact bodyPost_ret (resE _ rfl _ _ w.heap.size false (-1) rfl ⟨by go_simp, by go_simp⟩) rfl ⟨rfl, ⟨by go_simp, by go_simp⟩, ⟨by go_simp, by go_simp⟩, by go_simp⟩
set_option maxRecDepth 100000 in
set_option maxHeartbeats 2000000 in
theorem dir_4 (g bl : Nat) (m p0 p1 : Int) (o0 o1 : Bool) (a b : Int) (n cc : Nat) (C C' : Array Value) (lost lost' mm id : Int) (ok : Bool) (w : World) (hr : isRow w g) (hr' : rowAt w g = #[.int .i64 m, .int .i64 p0, .int .i64 p1, .bool o0, .bool o1, .bool true, .int .u32 a, .int .u32 b, .slice (some ⟨bl, 0, none⟩) n cc, .int .i64 lost]) (hl : isRow w bl) (hl' : rowAt w bl = C) (hne : ¬ g = bl) (hne' : ¬ bl = g) (HR : Hid (∀ W : World, Calls Try.prog 47 #[.int .i64 id] W fun e w' => e = .returned (.bool true) ∧ Below W.heap.size W w')) (HE : Hid (∀ W : World, isRow W g → rowAt W g = #[.int .i64 m, .int .i64 p0, .int .i64 p1, .bool o0, .bool o1, .bool true, .int .u32 a, .int .u32 b, .slice (some ⟨bl, 0, none⟩) n cc, .int .i64 lost] → isRow W bl → rowAt W bl = C → Calls Try.prog 49 #[.pointer (some ⟨g, 0, none⟩), .int .i64 id] W fun e w' => e = .returned (.agg #[.bool ok, .int .i64 mm]) ∧ Row w' g #[.int .i64 m, .int .i64 p0, .int .i64 p1, .bool o0, .bool o1, .bool true, .int .u32 a, .int .u32 b, .slice (some ⟨bl, 0, none⟩) n cc, .int .i64 lost'] ∧ Row w' bl C' ∧ Aside2 g bl W w')) :
    Calls Try.prog 24 #[.pointer (some ⟨g, 0, none⟩), .int .i64 id] w fun e w' => e = .returned (.agg #[.bool ok, .int .i64 mm]) ∧ Row w' g #[.int .i64 m, .int .i64 p0, .int .i64 p1, .bool o0, .bool o1, .bool true, .int .u32 a, .int .u32 b, .slice (some ⟨bl, 0, none⟩) n cc, .int .i64 lost'] ∧ Row w' bl C' ∧ Aside2 g bl w w' := by
  have _u : True := by have _ := hne; have _ := hne'; trivial
  clear _u
  have hX : Aside2 g bl w w := .of_below (Below.refl _ _)
  have lr := hr.lt
  have ll := hl.lt
  have nr : ¬ g = w.heap.size := by omega
  have rn : ¬ w.heap.size = g := by omega
  have nl : ¬ bl = w.heap.size := by omega
  have ln : ¬ w.heap.size = bl := by omega
  have hB_0 : Below w.heap.size w w := Below.refl _ _
  have ne_V_E : ¬ g = w.heap.size := by omega
  have en_V_E : ¬ w.heap.size = g := by omega
  have ne_L_E : ¬ bl = w.heap.size := by omega
  have en_L_E : ¬ w.heap.size = bl := by omega
  go_enter Try.func24, Try.ntmps24
  go_wp2_with fail
  refine (HR.out _).mono ?_
  rintro e v1 ⟨rfl, hb1⟩
  obtain ⟨V_1, V_1'⟩ : Row v1 g #[.int .i64 m, .int .i64 p0, .int .i64 p1, .bool o0, .bool o1, .bool true, .int .u32 a, .int .u32 b, .slice (some ⟨bl, 0, none⟩) n cc, .int .i64 lost] := Row.step (by go_simp) (by go_simp) hb1
  obtain ⟨L_1, L_1'⟩ : Row v1 bl C := Row.step (by go_simp) (by go_simp) hb1
  obtain ⟨E_1, E_1'⟩ : Row v1 w.heap.size #[.bool false, .int .i64 0] := Row.step (by go_simp) (by go_simp) hb1
  have hB_1 : Aside2 g bl w v1 := Aside2.low (by go_simp) hb1
  clear hr hr' hl hl' hX hb1
  have hz_1 : w.heap.size ≤ v1.heap.size := hB_1.size
  have hl_V_1 := isRow.lt V_1
  have ne_V_1_0 : ¬ g = v1.heap.size := by omega
  have en_V_1_0 : ¬ v1.heap.size = g := by omega
  have hl_L_1 := isRow.lt L_1
  have ne_L_1_0 : ¬ bl = v1.heap.size := by omega
  have en_L_1_0 : ¬ v1.heap.size = bl := by omega
  have hl_E_1 := isRow.lt E_1
  have ne_E_1_0 : ¬ w.heap.size = v1.heap.size := by omega
  have en_E_1_0 : ¬ v1.heap.size = w.heap.size := by omega
  go_wp2_with fail
  refine (HE.out _ (by go_simp) (by go_simp) (by go_simp) (by go_simp)).mono ?_
  rintro e v2 ⟨rfl, ⟨V_2, V_2'⟩, ⟨L_2, L_2'⟩, hA2⟩
  obtain ⟨E_2, E_2'⟩ : Row v2 w.heap.size #[.bool false, .int .i64 0] := hA2.row ⟨by go_simp, by go_simp⟩ (by omega) (by omega)
  have hB_2 : Aside2 g bl w v2 := Aside2.trans (by go_simp) hA2
  clear V_1 V_1' L_1 L_1' E_1 E_1' hB_1 hA2
  have hz_2 : w.heap.size ≤ v2.heap.size := hB_2.size
  have hl_V_2 := isRow.lt V_2
  have ne_V_2_0 : ¬ g = v2.heap.size := by omega
  have en_V_2_0 : ¬ v2.heap.size = g := by omega
  have hl_L_2 := isRow.lt L_2
  have ne_L_2_0 : ¬ bl = v2.heap.size := by omega
  have en_L_2_0 : ¬ v2.heap.size = bl := by omega
  have hl_E_2 := isRow.lt E_2
  have ne_E_2_0 : ¬ w.heap.size = v2.heap.size := by omega
  have en_E_2_0 : ¬ v2.heap.size = w.heap.size := by omega
  go_wp2
  exact bodyPost_ret (resE _ rfl _ _ w.heap.size ok mm rfl ⟨by go_simp, by go_simp⟩) rfl ⟨rfl, ⟨by go_simp, by go_simp⟩, ⟨by go_simp, by go_simp⟩, by go_simp⟩
end Go.Proofs.Ytkbaghblchlcnaa.Lr.Wd
