/- Texts of this claim, put together: Vh, Vi, Vj. -/
import Derived.Test.YtkbaghblchlcnaaE17
import Derived.Test.YtkbaghblchlcnaaE16
import Derived.Deep.RegionHeld3
import Derived.Deep.RegionWith
import Derived.RegionTactic
import Derived.ChangeAlike
namespace Go.Proofs.Ytkbaghblchlcnaa.Lr
open Go.RowKit Go.Shelf Go.Proofs.YtkbaghblchlcnaaW.PrintWords Go.Proofs.Ytkbaghblchlcnaa.IAll
attribute [local go_sem] Oper.semAt_some cell_row frozen_row isRow_setCell_eq rowAt_setCell_same rowAt_setCell_other isRow_alloc_eq rowAt_alloc rowAt_new rowAt_new' isRow_setRow_eq rowAt_setRow_same rowAt_setRow_other isRow_drew rowAt_drew size_setRow_ Lb_size Lb_at blk_ptr aggOf_agg below_alloc_e below_setCell_e below_setRow_e below_refl_e below_drew_r aside2_alloc_e aside2_setCell_e aside2_setRow_e aside2_drew_e aside2_refl_e aside2_drewN_e isRow_drewN rowAt_drewN below_drewN_e le_add_r offv_ptr one_lad zero_lad allOne_nil allOne_cons Value.oneCell' addr_at FA_size one_FA RV_size RV_get70 RV_get71 RV_at70 RV_at71 RV_at5 RV_low RV_set71 RV_ext RV_spl RC_size zeroF zero_rc zero_rc2 RC_one
attribute [local go_sem ↓] storeI storeC storeE loadF0 storeF0 loadF storeF
attribute [local go_sem] eq2i eq2b eq2u
set_option maxRecDepth 100000 in
set_option maxHeartbeats 2000000 in
theorem eoi_1 (g bl : Nat) (m p0 p1 : Int) (o0 o1 sp : Bool) (a b : Int) (n : Nat) (C : Array Value) (lost gp id : Int) (w : World) (hr : isRow w g) (hr' : rowAt w g = #[.int .i64 m, .int .i64 p0, .int .i64 p1, .bool o0, .bool o1, .bool sp, .int .u32 a, .int .u32 b, .slice (some ⟨bl, 0, none⟩) n n, .int .i64 lost]) (hl : isRow w bl) (hl' : rowAt w bl = C) (hne : ¬ g = bl) (hne' : ¬ bl = g) (HR : Hid (∀ W : World, Calls Try.prog 47 #[.int .i64 id] W fun e w' => e = .returned (.bool false) ∧ Below W.heap.size W w')) :
    Calls Try.prog 23 #[.pointer (some ⟨g, 0, none⟩), .int .i64 gp, .int .i64 id] w fun e w' => e = .returned (.agg #[.bool false, .int .i64 (-1)]) ∧ Row w' g #[.int .i64 m, .int .i64 p0, .int .i64 p1, .bool o0, .bool o1, .bool sp, .int .u32 a, .int .u32 b, .slice (some ⟨bl, 0, none⟩) n n, .int .i64 lost] ∧ Row w' bl C ∧ Aside2 g bl w w' := by
  have _u : True := by have _ := hne; have _ := hne'; trivial
  clear _u
  have hX : Aside2 g bl w w := .of_below (Below.refl _ _)
  have lr := hr.lt
  have ll := hl.lt
  have nr : ¬ g = w.heap.size := by omega
  have rn : ¬ w.heap.size = g := by omega
  have nl : ¬ bl = w.heap.size := by omega
  have ln : ¬ w.heap.size = bl := by omega
  have hB_0 : Below w.heap.size w w := Below.refl _ _
  have ne_V_E : ¬ g = w.heap.size := by omega
  have en_V_E : ¬ w.heap.size = g := by omega
  have ne_L_E : ¬ bl = w.heap.size := by omega
  have en_L_E : ¬ w.heap.size = bl := by omega
  go_enter Try.func23, Try.ntmps23
  go_wp2_with fail
  refine (HR.out _).mono ?_
  rintro e v1 ⟨rfl, hb1⟩
  obtain ⟨V_1, V_1'⟩ : Row v1 g #[.int .i64 m, .int .i64 p0, .int .i64 p1, .bool o0, .bool o1, .bool sp, .int .u32 a, .int .u32 b, .slice (some ⟨bl, 0, none⟩) n n, .int .i64 lost] := Row.step (by go_simp) (by go_simp) hb1
  obtain ⟨L_1, L_1'⟩ : Row v1 bl C := Row.step (by go_simp) (by go_simp) hb1
  obtain ⟨E_1, E_1'⟩ : Row v1 w.heap.size #[.bool false, .int .i64 0] := Row.step (by go_simp) (by go_simp) hb1
  have hB_1 : Aside2 g bl w v1 := Aside2.low (by go_simp) hb1
  clear hr hr' hl hl' hX hb1
  have hz_1 : w.heap.size ≤ v1.heap.size := hB_1.size
  have hl_V_1 := isRow.lt V_1
  have ne_V_1_0 : ¬ g = v1.heap.size := by omega
  have en_V_1_0 : ¬ v1.heap.size = g := by omega
  have hl_L_1 := isRow.lt L_1
  have ne_L_1_0 : ¬ bl = v1.heap.size := by omega
  have en_L_1_0 : ¬ v1.heap.size = bl := by omega
  have hl_E_1 := isRow.lt E_1
  have ne_E_1_0 : ¬ w.heap.size = v1.heap.size := by omega
  have en_E_1_0 : ¬ v1.heap.size = w.heap.size := by omega
  go_wp2
  exact bodyPost_ret (resE _ rfl _ _ w.heap.size false (-1) rfl ⟨by go_simp, by go_simp⟩) rfl ⟨rfl, ⟨by go_simp, by go_simp⟩, ⟨by go_simp, by go_simp⟩, by go_simp⟩
set_option maxRecDepth 100000 in
set_option maxHeartbeats 2000000 in
theorem eoi_2 (g bl : Nat) (m p0 p1 : Int) (o0 o1 sp : Bool) (a b : Int) (n : Nat) (C : Array Value) (lost gp id : Int) (w : World) (hr : isRow w g) (hr' : rowAt w g = #[.int .i64 m, .int .i64 p0, .int .i64 p1, .bool o0, .bool o1, .bool sp, .int .u32 a, .int .u32 b, .slice (some ⟨bl, 0, none⟩) n n, .int .i64 lost]) (hl : isRow w bl) (hl' : rowAt w bl = C) (hne : ¬ g = bl) (hne' : ¬ bl = g) (HR : Hid (∀ W : World, Calls Try.prog 47 #[.int .i64 id] W fun e w' => e = .returned (.bool true) ∧ Below W.heap.size W w')) (HD : Hid (∀ W : World, isRow W g → rowAt W g = #[.int .i64 m, .int .i64 p0, .int .i64 p1, .bool o0, .bool o1, .bool sp, .int .u32 a, .int .u32 b, .slice (some ⟨bl, 0, none⟩) n n, .int .i64 lost] → Calls Try.prog 48 #[.pointer (some ⟨g, 0, none⟩), .int .i64 gp] W fun e w' => e = .returned (.bool false) ∧ Row w' g #[.int .i64 m, .int .i64 p0, .int .i64 p1, .bool o0, .bool o1, .bool sp, .int .u32 a, .int .u32 b, .slice (some ⟨bl, 0, none⟩) n n, .int .i64 lost] ∧ Aside g W w')) :
    Calls Try.prog 23 #[.pointer (some ⟨g, 0, none⟩), .int .i64 gp, .int .i64 id] w fun e w' => e = .returned (.agg #[.bool false, .int .i64 (-1)]) ∧ Row w' g #[.int .i64 m, .int .i64 p0, .int .i64 p1, .bool o0, .bool o1, .bool sp, .int .u32 a, .int .u32 b, .slice (some ⟨bl, 0, none⟩) n n, .int .i64 lost] ∧ Row w' bl C ∧ Aside2 g bl w w' := by
  have _u : True := by have _ := hne; have _ := hne'; trivial
  clear _u
  have hX : Aside2 g bl w w := .of_below (Below.refl _ _)
  have lr := hr.lt
  have ll := hl.lt
  have nr : ¬ g = w.heap.size := by omega
  have rn : ¬ w.heap.size = g := by omega
  have nl : ¬ bl = w.heap.size := by omega
  have ln : ¬ w.heap.size = bl := by omega
  have hB_0 : Below w.heap.size w w := Below.refl _ _
  have ne_V_E : ¬ g = w.heap.size := by omega
  have en_V_E : ¬ w.heap.size = g := by omega
  have ne_L_E : ¬ bl = w.heap.size := by omega
  have en_L_E : ¬ w.heap.size = bl := by omega
  go_enter Try.func23, Try.ntmps23
  go_wp2_with fail
  refine (HR.out _).mono ?_
  rintro e v1 ⟨rfl, hb1⟩
  obtain ⟨V_1, V_1'⟩ : Row v1 g #[.int .i64 m, .int .i64 p0, .int .i64 p1, .bool o0, .bool o1, .bool sp, .int .u32 a, .int .u32 b, .slice (some ⟨bl, 0, none⟩) n n, .int .i64 lost] := Row.step (by go_simp) (by go_simp) hb1
  obtain ⟨L_1, L_1'⟩ : Row v1 bl C := Row.step (by go_simp) (by go_simp) hb1
  obtain ⟨E_1, E_1'⟩ : Row v1 w.heap.size #[.bool false, .int .i64 0] := Row.step (by go_simp) (by go_simp) hb1
  have hB_1 : Aside2 g bl w v1 := Aside2.low (by go_simp) hb1
  clear hr hr' hl hl' hX hb1
  have hz_1 : w.heap.size ≤ v1.heap.size := hB_1.size
  have hl_V_1 := isRow.lt V_1
  have ne_V_1_0 : ¬ g = v1.heap.size := by omega
  have en_V_1_0 : ¬ v1.heap.size = g := by omega
  have hl_L_1 := isRow.lt L_1
  have ne_L_1_0 : ¬ bl = v1.heap.size := by omega
  have en_L_1_0 : ¬ v1.heap.size = bl := by omega
  have hl_E_1 := isRow.lt E_1
  have ne_E_1_0 : ¬ w.heap.size = v1.heap.size := by omega
  have en_E_1_0 : ¬ v1.heap.size = w.heap.size := by omega
  go_wp2_with fail
  refine (HD.out _ (by go_simp) (by go_simp)).mono ?_
  rintro e v2 ⟨rfl, ⟨V_2, V_2'⟩, hA2⟩
  obtain ⟨L_2, L_2'⟩ : Row v2 bl C := hA2.row ⟨by go_simp, by go_simp⟩ (by omega)
  obtain ⟨E_2, E_2'⟩ : Row v2 w.heap.size #[.bool false, .int .i64 0] := hA2.row ⟨by go_simp, by go_simp⟩ (by omega)
  have hB_2 : Aside2 g bl w v2 := Aside2.trans (by go_simp) (Aside2.left hA2)
  clear V_1 V_1' L_1 L_1' E_1 E_1' hB_1 hA2
  have hz_2 : w.heap.size ≤ v2.heap.size := hB_2.size
  have hl_V_2 := isRow.lt V_2
  have ne_V_2_0 : ¬ g = v2.heap.size := by omega
  have en_V_2_0 : ¬ v2.heap.size = g := by omega
  have hl_L_2 := isRow.lt L_2
  have ne_L_2_0 : ¬ bl = v2.heap.size := by omega
  have en_L_2_0 : ¬ v2.heap.size = bl := by omega
  have hl_E_2 := isRow.lt E_2
  have ne_E_2_0 : ¬ w.heap.size = v2.heap.size := by omega
  have en_E_2_0 : ¬ v2.heap.size = w.heap.size := by omega
  go_wp2
  exact bodyPost_ret (resE _ rfl _ _ w.heap.size false (-1) rfl ⟨by go_simp, by go_simp⟩) rfl ⟨rfl, ⟨by go_simp, by go_simp⟩, ⟨by go_simp, by go_simp⟩, by go_simp⟩
set_option maxRecDepth 100000 in
set_option maxHeartbeats 2000000 in
theorem eoi_3 (g bl : Nat) (m p0 p1 : Int) (o0 o1 : Bool) (a b a' b' : Int) (n : Nat) (C : Array Value) (lost gp id : Int) (w : World) (hr : isRow w g) (hr' : rowAt w g = #[.int .i64 m, .int .i64 p0, .int .i64 p1, .bool o0, .bool o1, .bool true, .int .u32 a, .int .u32 b, .slice (some ⟨bl, 0, none⟩) n n, .int .i64 lost]) (hl : isRow w bl) (hl' : rowAt w bl = C) (hne : ¬ g = bl) (hne' : ¬ bl = g) (HR : Hid (∀ W : World, Calls Try.prog 47 #[.int .i64 id] W fun e w' => e = .returned (.bool true) ∧ Below W.heap.size W w')) (HD : Hid (∀ W : World, isRow W g → rowAt W g = #[.int .i64 m, .int .i64 p0, .int .i64 p1, .bool o0, .bool o1, .bool true, .int .u32 a, .int .u32 b, .slice (some ⟨bl, 0, none⟩) n n, .int .i64 lost] → Calls Try.prog 48 #[.pointer (some ⟨g, 0, none⟩), .int .i64 gp] W fun e w' => e = .returned (.bool true) ∧ Row w' g #[.int .i64 m, .int .i64 p0, .int .i64 p1, .bool o0, .bool o1, .bool true, .int .u32 a', .int .u32 b', .slice (some ⟨bl, 0, none⟩) n n, .int .i64 lost] ∧ Aside g W w')) :
    Calls Try.prog 23 #[.pointer (some ⟨g, 0, none⟩), .int .i64 gp, .int .i64 id] w fun e w' => e = .returned (.agg #[.bool false, .int .i64 (-1)]) ∧ Row w' g #[.int .i64 m, .int .i64 p0, .int .i64 p1, .bool o0, .bool o1, .bool true, .int .u32 a', .int .u32 b', .slice (some ⟨bl, 0, none⟩) n n, .int .i64 lost] ∧ Row w' bl C ∧ Aside2 g bl w w' := by
  have _u : True := by have _ := hne; have _ := hne'; trivial
  clear _u
  have hX : Aside2 g bl w w := .of_below (Below.refl _ _)
  have lr := hr.lt
  have ll := hl.lt
  have nr : ¬ g = w.heap.size := by omega
  have rn : ¬ w.heap.size = g := by omega
  have nl : ¬ bl = w.heap.size := by omega
  have ln : ¬ w.heap.size = bl := by omega
  have hB_0 : Below w.heap.size w w := Below.refl _ _
  have ne_V_E : ¬ g = w.heap.size := by omega
  have en_V_E : ¬ w.heap.size = g := by omega
  have ne_L_E : ¬ bl = w.heap.size := by omega
  have en_L_E : ¬ w.heap.size = bl := by omega
  go_enter Try.func23, Try.ntmps23
  go_wp2_with fail
  refine (HR.out _).mono ?_
  rintro e v1 ⟨rfl, hb1⟩
  obtain ⟨V_1, V_1'⟩ : Row v1 g #[.int .i64 m, .int .i64 p0, .int .i64 p1, .bool o0, .bool o1, .bool true, .int .u32 a, .int .u32 b, .slice (some ⟨bl, 0, none⟩) n n, .int .i64 lost] := Row.step (by go_simp) (by go_simp) hb1
  obtain ⟨L_1, L_1'⟩ : Row v1 bl C := Row.step (by go_simp) (by go_simp) hb1
  obtain ⟨E_1, E_1'⟩ : Row v1 w.heap.size #[.bool false, .int .i64 0] := Row.step (by go_simp) (by go_simp) hb1
  have hB_1 : Aside2 g bl w v1 := Aside2.low (by go_simp) hb1
  clear hr hr' hl hl' hX hb1
  have hz_1 : w.heap.size ≤ v1.heap.size := hB_1.size
  have hl_V_1 := isRow.lt V_1
  have ne_V_1_0 : ¬ g = v1.heap.size := by omega
  have en_V_1_0 : ¬ v1.heap.size = g := by omega
  have hl_L_1 := isRow.lt L_1
  have ne_L_1_0 : ¬ bl = v1.heap.size := by omega
  have en_L_1_0 : ¬ v1.heap.size = bl := by omega
  have hl_E_1 := isRow.lt E_1
  have ne_E_1_0 : ¬ w.heap.size = v1.heap.size := by omega
  have en_E_1_0 : ¬ v1.heap.size = w.heap.size := by omega
  go_wp2_with fail
  refine (HD.out _ (by go_simp) (by go_simp)).mono ?_
  rintro e v2 ⟨rfl, ⟨V_2, V_2'⟩, hA2⟩
  obtain ⟨L_2, L_2'⟩ : Row v2 bl C := hA2.row ⟨by go_simp, by go_simp⟩ (by omega)
  obtain ⟨E_2, E_2'⟩ : Row v2 w.heap.size #[.bool false, .int .i64 0] := hA2.row ⟨by go_simp, by go_simp⟩ (by omega)
  have hB_2 : Aside2 g bl w v2 := Aside2.trans (by go_simp) (Aside2.left hA2)
  clear V_1 V_1' L_1 L_1' E_1 E_1' hB_1 hA2
  have hz_2 : w.heap.size ≤ v2.heap.size := hB_2.size
  have hl_V_2 := isRow.lt V_2
  have ne_V_2_0 : ¬ g = v2.heap.size := by omega
  have en_V_2_0 : ¬ v2.heap.size = g := by omega
  have hl_L_2 := isRow.lt L_2
  have ne_L_2_0 : ¬ bl = v2.heap.size := by omega
  have en_L_2_0 : ¬ v2.heap.size = bl := by omega
  have hl_E_2 := isRow.lt E_2
  have ne_E_2_0 : ¬ w.heap.size = v2.heap.size := by omega
  have en_E_2_0 : ¬ v2.heap.size = w.heap.size := by omega
  go_wp2
  exact bodyPost_ret (resE _ rfl _ _ w.heap.size false (-1) rfl ⟨by go_simp, by go_simp⟩) rfl ⟨rfl, ⟨by go_simp, by go_simp⟩, ⟨by go_simp, by go_simp⟩, by go_simp⟩
set_option maxRecDepth 100000 in
set_option maxHeartbeats 2000000 in
theorem eoi_4 (g bl : Nat) (m p0 p1 : Int) (o0 o1 : Bool) (a b a' b' : Int) (n : Nat) (C C' : Array Value) (lost lost' mm gp id : Int) (ok : Bool) (w : World) (hr : isRow w g) (hr' : rowAt w g = #[.int .i64 m, .int .i64 p0, .int .i64 p1, .bool o0, .bool o1, .bool false, .int .u32 a, .int .u32 b, .slice (some ⟨bl, 0, none⟩) n n, .int .i64 lost]) (hl : isRow w bl) (hl' : rowAt w bl = C) (hne : ¬ g = bl) (hne' : ¬ bl = g) (HR : Hid (∀ W : World, Calls Try.prog 47 #[.int .i64 id] W fun e w' => e = .returned (.bool true) ∧ Below W.heap.size W w')) (HD : Hid (∀ W : World, isRow W g → rowAt W g = #[.int .i64 m, .int .i64 p0, .int .i64 p1, .bool o0, .bool o1, .bool false, .int .u32 a, .int .u32 b, .slice (some ⟨bl, 0, none⟩) n n, .int .i64 lost] → Calls Try.prog 48 #[.pointer (some ⟨g, 0, none⟩), .int .i64 gp] W fun e w' => e = .returned (.bool true) ∧ Row w' g #[.int .i64 m, .int .i64 p0, .int .i64 p1, .bool o0, .bool o1, .bool false, .int .u32 a', .int .u32 b', .slice (some ⟨bl, 0, none⟩) n n, .int .i64 lost] ∧ Aside g W w')) (HE : Hid (∀ W : World, isRow W g → rowAt W g = #[.int .i64 m, .int .i64 p0, .int .i64 p1, .bool o0, .bool o1, .bool false, .int .u32 a', .int .u32 b', .slice (some ⟨bl, 0, none⟩) n n, .int .i64 lost] → isRow W bl → rowAt W bl = C → Calls Try.prog 49 #[.pointer (some ⟨g, 0, none⟩), .int .i64 id] W fun e w' => e = .returned (.agg #[.bool ok, .int .i64 mm]) ∧ Row w' g #[.int .i64 m, .int .i64 p0, .int .i64 p1, .bool o0, .bool o1, .bool false, .int .u32 a', .int .u32 b', .slice (some ⟨bl, 0, none⟩) n n, .int .i64 lost'] ∧ Row w' bl C' ∧ Aside2 g bl W w')) :
    Calls Try.prog 23 #[.pointer (some ⟨g, 0, none⟩), .int .i64 gp, .int .i64 id] w fun e w' => e = .returned (.agg #[.bool ok, .int .i64 mm]) ∧ Row w' g #[.int .i64 m, .int .i64 p0, .int .i64 p1, .bool o0, .bool o1, .bool false, .int .u32 a', .int .u32 b', .slice (some ⟨bl, 0, none⟩) n n, .int .i64 lost'] ∧ Row w' bl C' ∧ Aside2 g bl w w' := by
  have _u : True := by have _ := hne; have _ := hne'; trivial
  clear _u
  have hX : Aside2 g bl w w := .of_below (Below.refl _ _)
  have lr := hr.lt
  have ll := hl.lt
  have nr : ¬ g = w.heap.size := by omega
  have rn : ¬ w.heap.size = g := by omega
  have nl : ¬ bl = w.heap.size := by omega
  have ln : ¬ w.heap.size = bl := by omega
  have hB_0 : Below w.heap.size w w := Below.refl _ _
  have ne_V_E : ¬ g = w.heap.size := by omega
  have en_V_E : ¬ w.heap.size = g := by omega
  have ne_L_E : ¬ bl = w.heap.size := by omega
  have en_L_E : ¬ w.heap.size = bl := by omega
  go_enter Try.func23, Try.ntmps23
  go_wp2_with fail
  refine (HR.out _).mono ?_
  rintro e v1 ⟨rfl, hb1⟩
  obtain ⟨V_1, V_1'⟩ : Row v1 g #[.int .i64 m, .int .i64 p0, .int .i64 p1, .bool o0, .bool o1, .bool false, .int .u32 a, .int .u32 b, .slice (some ⟨bl, 0, none⟩) n n, .int .i64 lost] := Row.step (by go_simp) (by go_simp) hb1
  obtain ⟨L_1, L_1'⟩ : Row v1 bl C := Row.step (by go_simp) (by go_simp) hb1
  obtain ⟨E_1, E_1'⟩ : Row v1 w.heap.size #[.bool false, .int .i64 0] := Row.step (by go_simp) (by go_simp) hb1
  have hB_1 : Aside2 g bl w v1 := Aside2.low (by go_simp) hb1
  clear hr hr' hl hl' hX hb1
  have hz_1 : w.heap.size ≤ v1.heap.size := hB_1.size
  have hl_V_1 := isRow.lt V_1
  have ne_V_1_0 : ¬ g = v1.heap.size := by omega
  have en_V_1_0 : ¬ v1.heap.size = g := by omega
  have hl_L_1 := isRow.lt L_1
  have ne_L_1_0 : ¬ bl = v1.heap.size := by omega
  have en_L_1_0 : ¬ v1.heap.size = bl := by omega
  have hl_E_1 := isRow.lt E_1
  have ne_E_1_0 : ¬ w.heap.size = v1.heap.size := by omega
  have en_E_1_0 : ¬ v1.heap.size = w.heap.size := by omega
  go_wp2_with fail
  refine (HD.out _ (by go_simp) (by go_simp)).mono ?_
  rintro e v2 ⟨rfl, ⟨V_2, V_2'⟩, hA2⟩
  obtain ⟨L_2, L_2'⟩ : Row v2 bl C := hA2.row ⟨by go_simp, by go_simp⟩ (by omega)
  obtain ⟨E_2, E_2'⟩ : Row v2 w.heap.size #[.bool false, .int .i64 0] := hA2.row ⟨by go_simp, by go_simp⟩ (by omega)
  have hB_2 : Aside2 g bl w v2 := Aside2.trans (by go_simp) (Aside2.left hA2)
  clear V_1 V_1' L_1 L_1' E_1 E_1' hB_1 hA2
  have hz_2 : w.heap.size ≤ v2.heap.size := hB_2.size
  have hl_V_2 := isRow.lt V_2
  have ne_V_2_0 : ¬ g = v2.heap.size := by omega
  have en_V_2_0 : ¬ v2.heap.size = g := by omega
  have hl_L_2 := isRow.lt L_2
  have ne_L_2_0 : ¬ bl = v2.heap.size := by omega
  have en_L_2_0 : ¬ v2.heap.size = bl := by omega
  have hl_E_2 := isRow.lt E_2
  have ne_E_2_0 : ¬ w.heap.size = v2.heap.size := by omega
  have en_E_2_0 : ¬ v2.heap.size = w.heap.size := by omega
  go_wp2_with fail
  refine (HE.out _ (by go_simp) (by go_simp) (by go_simp) (by go_simp)).mono ?_
  rintro e v3 ⟨rfl, ⟨V_3, V_3'⟩, ⟨L_3, L_3'⟩, hA3⟩
  obtain ⟨E_3, E_3'⟩ : Row v3 w.heap.size #[.bool false, .int .i64 0] := hA3.row ⟨by go_simp, by go_simp⟩ (by omega) (by omega)
  have hB_3 : Aside2 g bl w v3 := Aside2.trans (by go_simp) hA3
  clear V_2 V_2' L_2 L_2' E_2 E_2' hB_2 hA3
  have hz_3 : w.heap.size ≤ v3.heap.size := hB_3.size
  have hl_V_3 := isRow.lt V_3
  have ne_V_3_0 : ¬ g = v3.heap.size := by omega
  have en_V_3_0 : ¬ v3.heap.size = g := by omega
  have hl_L_3 := isRow.lt L_3
  have ne_L_3_0 : ¬ bl = v3.heap.size := by omega
  have en_L_3_0 : ¬ v3.heap.size = bl := by omega
  have hl_E_3 := isRow.lt E_3
  have ne_E_3_0 : ¬ w.heap.size = v3.heap.size := by omega
  have en_E_3_0 : ¬ v3.heap.size = w.heap.size := by omega
  go_wp2
  exact bodyPost_ret (resE _ rfl _ _ w.heap.size ok mm rfl ⟨by go_simp, by go_simp⟩) rfl ⟨rfl, ⟨by go_simp, by go_simp⟩, ⟨by go_simp, by go_simp⟩, by go_simp⟩
set_option maxRecDepth 100000 in
set_option maxHeartbeats 2000000 in
theorem dir_1 (g bl : Nat) (m p0 p1 : Int) (o0 o1 sp : Bool) (a b : Int) (n : Nat) (C : Array Value) (lost id : Int) (w : World) (hr : isRow w g) (hr' : rowAt w g = #[.int .i64 m, .int .i64 p0, .int .i64 p1, .bool o0, .bool o1, .bool sp, .int .u32 a, .int .u32 b, .slice (some ⟨bl, 0, none⟩) n n, .int .i64 lost]) (hl : isRow w bl) (hl' : rowAt w bl = C) (hne : ¬ g = bl) (hne' : ¬ bl = g) (HR : Hid (∀ W : World, Calls Try.prog 47 #[.int .i64 id] W fun e w' => e = .returned (.bool false) ∧ Below W.heap.size W w')) :
    Calls Try.prog 24 #[.pointer (some ⟨g, 0, none⟩), .int .i64 id] w fun e w' => e = .returned (.agg #[.bool false, .int .i64 (-1)]) ∧ Row w' g #[.int .i64 m, .int .i64 p0, .int .i64 p1, .bool o0, .bool o1, .bool sp, .int .u32 a, .int .u32 b, .slice (some ⟨bl, 0, none⟩) n n, .int .i64 lost] ∧ Row w' bl C ∧ Aside2 g bl w w' := by
  have _u : True := by have _ := hne; have _ := hne'; trivial
  clear _u
  have hX : Aside2 g bl w w := .of_below (Below.refl _ _)
  have lr := hr.lt
  have ll := hl.lt
  have nr : ¬ g = w.heap.size := by omega
  have rn : ¬ w.heap.size = g := by omega
  have nl : ¬ bl = w.heap.size := by omega
  have ln : ¬ w.heap.size = bl := by omega
  have hB_0 : Below w.heap.size w w := Below.refl _ _
  have ne_V_E : ¬ g = w.heap.size := by omega
  have en_V_E : ¬ w.heap.size = g := by omega
  have ne_L_E : ¬ bl = w.heap.size := by omega
  have en_L_E : ¬ w.heap.size = bl := by omega
  go_enter Try.func24, Try.ntmps24
  go_wp2_with fail
  refine (HR.out _).mono ?_
  rintro e v1 ⟨rfl, hb1⟩
  obtain ⟨V_1, V_1'⟩ : Row v1 g #[.int .i64 m, .int .i64 p0, .int .i64 p1, .bool o0, .bool o1, .bool sp, .int .u32 a, .int .u32 b, .slice (some ⟨bl, 0, none⟩) n n, .int .i64 lost] := Row.step (by go_simp) (by go_simp) hb1
  obtain ⟨L_1, L_1'⟩ : Row v1 bl C := Row.step (by go_simp) (by go_simp) hb1
  obtain ⟨E_1, E_1'⟩ : Row v1 w.heap.size #[.bool false, .int .i64 0] := Row.step (by go_simp) (by go_simp) hb1
  have hB_1 : Aside2 g bl w v1 := Aside2.low (by go_simp) hb1
  clear hr hr' hl hl' hX hb1
  have hz_1 : w.heap.size ≤ v1.heap.size := hB_1.size
  have hl_V_1 := isRow.lt V_1
  have ne_V_1_0 : ¬ g = v1.heap.size := by omega
  have en_V_1_0 : ¬ v1.heap.size = g := by omega
  have hl_L_1 := isRow.lt L_1
  have ne_L_1_0 : ¬ bl = v1.heap.size := by omega
  have en_L_1_0 : ¬ v1.heap.size = bl := by omega
  have hl_E_1 := isRow.lt E_1
  have ne_E_1_0 : ¬ w.heap.size = v1.heap.size := by omega
  have en_E_1_0 : ¬ v1.heap.size = w.heap.size := by omega
  go_wp2
  exact bodyPost_ret (resE _ rfl _ _ w.heap.size false (-1) rfl ⟨by go_simp, by go_simp⟩) rfl ⟨rfl, ⟨by go_simp, by go_simp⟩, ⟨by go_simp, by go_simp⟩, by go_simp⟩
set_option maxRecDepth 100000 in
set_option maxHeartbeats 2000000 in
theorem dir_2 (g bl : Nat) (m p0 p1 : Int) (o0 o1 : Bool) (a b : Int) (n : Nat) (C : Array Value) (lost id : Int) (w : World) (hr : isRow w g) (hr' : rowAt w g = #[.int .i64 m, .int .i64 p0, .int .i64 p1, .bool o0, .bool o1, .bool false, .int .u32 a, .int .u32 b, .slice (some ⟨bl, 0, none⟩) n n, .int .i64 lost]) (hl : isRow w bl) (hl' : rowAt w bl = C) (hne : ¬ g = bl) (hne' : ¬ bl = g) (HR : Hid (∀ W : World, Calls Try.prog 47 #[.int .i64 id] W fun e w' => e = .returned (.bool true) ∧ Below W.heap.size W w')) :
    Calls Try.prog 24 #[.pointer (some ⟨g, 0, none⟩), .int .i64 id] w fun e w' => e = .returned (.agg #[.bool false, .int .i64 (-1)]) ∧ Row w' g #[.int .i64 m, .int .i64 p0, .int .i64 p1, .bool o0, .bool o1, .bool false, .int .u32 a, .int .u32 b, .slice (some ⟨bl, 0, none⟩) n n, .int .i64 lost] ∧ Row w' bl C ∧ Aside2 g bl w w' := by
  have _u : True := by have _ := hne; have _ := hne'; trivial
  clear _u
  have hX : Aside2 g bl w w := .of_below (Below.refl _ _)
  have lr := hr.lt
  have ll := hl.lt
  have nr : ¬ g = w.heap.size := by omega
  have rn : ¬ w.heap.size = g := by omega
  have nl : ¬ bl = w.heap.size := by omega
  have ln : ¬ w.heap.size = bl := by omega
  have hB_0 : Below w.heap.size w w := Below.refl _ _
  have ne_V_E : ¬ g = w.heap.size := by omega
  have en_V_E : ¬ w.heap.size = g := by omega
  have ne_L_E : ¬ bl = w.heap.size := by omega
  have en_L_E : ¬ w.heap.size = bl := by omega
  go_enter Try.func24, Try.ntmps24
  go_wp2_with fail
  refine (HR.out _).mono ?_
  rintro e v1 ⟨rfl, hb1⟩
  obtain ⟨V_1, V_1'⟩ : Row v1 g #[.int .i64 m, .int .i64 p0, .int .i64 p1, .bool o0, .bool o1, .bool false, .int .u32 a, .int .u32 b, .slice (some ⟨bl, 0, none⟩) n n, .int .i64 lost] := Row.step (by go_simp) (by go_simp) hb1
  obtain ⟨L_1, L_1'⟩ : Row v1 bl C := Row.step (by go_simp) (by go_simp) hb1
  obtain ⟨E_1, E_1'⟩ : Row v1 w.heap.size #[.bool false, .int .i64 0] := Row.step (by go_simp) (by go_simp) hb1
  have hB_1 : Aside2 g bl w v1 := Aside2.low (by go_simp) hb1
  clear hr hr' hl hl' hX hb1
  have hz_1 : w.heap.size ≤ v1.heap.size := hB_1.size
  have hl_V_1 := isRow.lt V_1
  have ne_V_1_0 : ¬ g = v1.heap.size := by omega
  have en_V_1_0 : ¬ v1.heap.size = g := by omega
  have hl_L_1 := isRow.lt L_1
  have ne_L_1_0 : ¬ bl = v1.heap.size := by omega
  have en_L_1_0 : ¬ v1.heap.size = bl := by omega
  have hl_E_1 := isRow.lt E_1
  have ne_E_1_0 : ¬ w.heap.size = v1.heap.size := by omega
  have en_E_1_0 : ¬ v1.heap.size = w.heap.size := by omega
  go_wp2
  exact bodyPost_ret (resE _ rfl _ _ w.heap.size false (-1) rfl ⟨by go_simp, by go_simp⟩) rfl ⟨rfl, ⟨by go_simp, by go_simp⟩, ⟨by go_simp, by go_simp⟩, by go_simp⟩
set_option maxRecDepth 100000 in
set_option maxHeartbeats 2000000 in
theorem dir_4 (g bl : Nat) (m p0 p1 : Int) (o0 o1 : Bool) (a b : Int) (n : Nat) (C C' : Array Value) (lost lost' mm id : Int) (ok : Bool) (w : World) (hr : isRow w g) (hr' : rowAt w g = #[.int .i64 m, .int .i64 p0, .int .i64 p1, .bool o0, .bool o1, .bool true, .int .u32 a, .int .u32 b, .slice (some ⟨bl, 0, none⟩) n n, .int .i64 lost]) (hl : isRow w bl) (hl' : rowAt w bl = C) (hne : ¬ g = bl) (hne' : ¬ bl = g) (HR : Hid (∀ W : World, Calls Try.prog 47 #[.int .i64 id] W fun e w' => e = .returned (.bool true) ∧ Below W.heap.size W w')) (HE : Hid (∀ W : World, isRow W g → rowAt W g = #[.int .i64 m, .int .i64 p0, .int .i64 p1, .bool o0, .bool o1, .bool true, .int .u32 a, .int .u32 b, .slice (some ⟨bl, 0, none⟩) n n, .int .i64 lost] → isRow W bl → rowAt W bl = C → Calls Try.prog 49 #[.pointer (some ⟨g, 0, none⟩), .int .i64 id] W fun e w' => e = .returned (.agg #[.bool ok, .int .i64 mm]) ∧ Row w' g #[.int .i64 m, .int .i64 p0, .int .i64 p1, .bool o0, .bool o1, .bool true, .int .u32 a, .int .u32 b, .slice (some ⟨bl, 0, none⟩) n n, .int .i64 lost'] ∧ Row w' bl C' ∧ Aside2 g bl W w')) :
    Calls Try.prog 24 #[.pointer (some ⟨g, 0, none⟩), .int .i64 id] w fun e w' => e = .returned (.agg #[.bool ok, .int .i64 mm]) ∧ Row w' g #[.int .i64 m, .int .i64 p0, .int .i64 p1, .bool o0, .bool o1, .bool true, .int .u32 a, .int .u32 b, .slice (some ⟨bl, 0, none⟩) n n, .int .i64 lost'] ∧ Row w' bl C' ∧ Aside2 g bl w w' := by
  have _u : True := by have _ := hne; have _ := hne'; trivial
  clear _u
  have hX : Aside2 g bl w w := .of_below (Below.refl _ _)
  have lr := hr.lt
  have ll := hl.lt
  have nr : ¬ g = w.heap.size := by omega
  have rn : ¬ w.heap.size = g := by omega
  have nl : ¬ bl = w.heap.size := by omega
  have ln : ¬ w.heap.size = bl := by omega
  have hB_0 : Below w.heap.size w w := Below.refl _ _
  have ne_V_E : ¬ g = w.heap.size := by omega
  have en_V_E : ¬ w.heap.size = g := by omega
  have ne_L_E : ¬ bl = w.heap.size := by omega
  have en_L_E : ¬ w.heap.size = bl := by omega
  go_enter Try.func24, Try.ntmps24
  go_wp2_with fail
  refine (HR.out _).mono ?_
  rintro e v1 ⟨rfl, hb1⟩
  obtain ⟨V_1, V_1'⟩ : Row v1 g #[.int .i64 m, .int .i64 p0, .int .i64 p1, .bool o0, .bool o1, .bool true, .int .u32 a, .int .u32 b, .slice (some ⟨bl, 0, none⟩) n n, .int .i64 lost] := Row.step (by go_simp) (by go_simp) hb1
  obtain ⟨L_1, L_1'⟩ : Row v1 bl C := Row.step (by go_simp) (by go_simp) hb1
  obtain ⟨E_1, E_1'⟩ : Row v1 w.heap.size #[.bool false, .int .i64 0] := Row.step (by go_simp) (by go_simp) hb1
  have hB_1 : Aside2 g bl w v1 := Aside2.low (by go_simp) hb1
  clear hr hr' hl hl' hX hb1
  have hz_1 : w.heap.size ≤ v1.heap.size := hB_1.size
  have hl_V_1 := isRow.lt V_1
  have ne_V_1_0 : ¬ g = v1.heap.size := by omega
  have en_V_1_0 : ¬ v1.heap.size = g := by omega
  have hl_L_1 := isRow.lt L_1
  have ne_L_1_0 : ¬ bl = v1.heap.size := by omega
  have en_L_1_0 : ¬ v1.heap.size = bl := by omega
  have hl_E_1 := isRow.lt E_1
  have ne_E_1_0 : ¬ w.heap.size = v1.heap.size := by omega
  have en_E_1_0 : ¬ v1.heap.size = w.heap.size := by omega
  go_wp2_with fail
  refine (HE.out _ (by go_simp) (by go_simp) (by go_simp) (by go_simp)).mono ?_
  rintro e v2 ⟨rfl, ⟨V_2, V_2'⟩, ⟨L_2, L_2'⟩, hA2⟩
  obtain ⟨E_2, E_2'⟩ : Row v2 w.heap.size #[.bool false, .int .i64 0] := hA2.row ⟨by go_simp, by go_simp⟩ (by omega) (by omega)
  have hB_2 : Aside2 g bl w v2 := Aside2.trans (by go_simp) hA2
  clear V_1 V_1' L_1 L_1' E_1 E_1' hB_1 hA2
  have hz_2 : w.heap.size ≤ v2.heap.size := hB_2.size
  have hl_V_2 := isRow.lt V_2
  have ne_V_2_0 : ¬ g = v2.heap.size := by omega
  have en_V_2_0 : ¬ v2.heap.size = g := by omega
  have hl_L_2 := isRow.lt L_2
  have ne_L_2_0 : ¬ bl = v2.heap.size := by omega
  have en_L_2_0 : ¬ v2.heap.size = bl := by omega
  have hl_E_2 := isRow.lt E_2
  have ne_E_2_0 : ¬ w.heap.size = v2.heap.size := by omega
  have en_E_2_0 : ¬ v2.heap.size = w.heap.size := by omega
  go_wp2
  exact bodyPost_ret (resE _ rfl _ _ w.heap.size ok mm rfl ⟨by go_simp, by go_simp⟩) rfl ⟨rfl, ⟨by go_simp, by go_simp⟩, ⟨by go_simp, by go_simp⟩, by go_simp⟩
set_option maxRecDepth 100000 in
set_option maxHeartbeats 2000000 in
theorem reoi_1 (g bl : Nat) (R : Array Value) (n : Nat) (C : Array Value) (lost gp id : Int) (w : World) (hr : isRow w g) (hr' : rowAt w g = (RV R (.slice (some ⟨bl, 0, none⟩) n n) (.int .i64 lost))) (hl : isRow w bl) (hl' : rowAt w bl = C) (hne : ¬ g = bl) (hne' : ¬ bl = g) (HR : Hid (∀ W : World, Calls Try.prog 30 #[.int .i64 id] W fun e w' => e = .returned (.bool false) ∧ Below W.heap.size W w')) :
    Calls Try.prog 87 #[.pointer (some ⟨g, 0, none⟩), .int .i64 gp, .int .i64 id] w fun e w' => e = .returned (.tuple #[.bool false, .int .i64 (-1)]) ∧ Row w' g (RV R (.slice (some ⟨bl, 0, none⟩) n n) (.int .i64 lost)) ∧ Row w' bl C ∧ Aside2 g bl w w' := by
  have _u : True := by have _ := hne; have _ := hne'; trivial
  clear _u
  have hX : Aside2 g bl w w := .of_below (Below.refl _ _)
  have lr := hr.lt
  have ll := hl.lt
  have nr : ¬ g = w.heap.size := by omega
  have rn : ¬ w.heap.size = g := by omega
  have nl : ¬ bl = w.heap.size := by omega
  have ln : ¬ w.heap.size = bl := by omega
  have hB_0 : Below w.heap.size w w := Below.refl _ _
  go_enter Try.func87, Try.ntmps87
  go_wp2_with fail
  refine (HR.out _).mono ?_
  rintro e v1 ⟨rfl, hb1⟩
  obtain ⟨V_1, V_1'⟩ : Row v1 g (RV R (.slice (some ⟨bl, 0, none⟩) n n) (.int .i64 lost)) := Row.step (by go_simp) (by go_simp) hb1
  obtain ⟨L_1, L_1'⟩ : Row v1 bl C := Row.step (by go_simp) (by go_simp) hb1
  have hB_1 : Aside2 g bl w v1 := Aside2.low (by go_simp) hb1
  clear hr hr' hl hl' hX hb1
  have hz_1 : w.heap.size ≤ v1.heap.size := hB_1.size
  have hl_V_1 := isRow.lt V_1
  have ne_V_1_0 : ¬ g = v1.heap.size := by omega
  have en_V_1_0 : ¬ v1.heap.size = g := by omega
  have hl_L_1 := isRow.lt L_1
  have ne_L_1_0 : ¬ bl = v1.heap.size := by omega
  have en_L_1_0 : ¬ v1.heap.size = bl := by omega
  go_wp2
  go_ret2
  exact ⟨rfl, ⟨by go_simp, by go_simp⟩, ⟨by go_simp, by go_simp⟩, by go_simp⟩
set_option maxRecDepth 100000 in
set_option maxHeartbeats 2000000 in
theorem reoi_2 (g bl : Nat) (R R' : Array Value) (hR : R.size = 70) (n : Nat) (C : Array Value) (lost gp id : Int) (w : World) (hr : isRow w g) (hr' : rowAt w g = (RV R (.slice (some ⟨bl, 0, none⟩) n n) (.int .i64 lost))) (hl : isRow w bl) (hl' : rowAt w bl = C) (hne : ¬ g = bl) (hne' : ¬ bl = g) (hR' : R'.size = 70) (hO : AllOne R') (HR : Hid (∀ W : World, Calls Try.prog 30 #[.int .i64 id] W fun e w' => e = .returned (.bool true) ∧ Below W.heap.size W w')) (HD : Hid (∀ W : World, Calls Try.prog 96 #[.agg R, .int .i64 gp] W fun e w' => e = .returned (.tuple #[.agg R', .bool false]) ∧ Below W.heap.size W w')) :
    Calls Try.prog 87 #[.pointer (some ⟨g, 0, none⟩), .int .i64 gp, .int .i64 id] w fun e w' => e = .returned (.tuple #[.bool false, .int .i64 (-1)]) ∧ Row w' g (RV R' (.slice (some ⟨bl, 0, none⟩) n n) (.int .i64 lost)) ∧ Row w' bl C ∧ Aside2 g bl w w' := by
  have _u : True := by have _ := hne; have _ := hne'; trivial
  clear _u
  have hX : Aside2 g bl w w := .of_below (Below.refl _ _)
  have lr := hr.lt
  have ll := hl.lt
  have nr : ¬ g = w.heap.size := by omega
  have rn : ¬ w.heap.size = g := by omega
  have nl : ¬ bl = w.heap.size := by omega
  have ln : ¬ w.heap.size = bl := by omega
  have hB_0 : Below w.heap.size w w := Below.refl _ _
  go_enter Try.func87, Try.ntmps87
  go_wp2_with fail
  refine (HR.out _).mono ?_
  rintro e v1 ⟨rfl, hb1⟩
  obtain ⟨V_1, V_1'⟩ : Row v1 g (RV R (.slice (some ⟨bl, 0, none⟩) n n) (.int .i64 lost)) := Row.step (by go_simp) (by go_simp) hb1
  obtain ⟨L_1, L_1'⟩ : Row v1 bl C := Row.step (by go_simp) (by go_simp) hb1
  have hB_1 : Aside2 g bl w v1 := Aside2.low (by go_simp) hb1
  clear hr hr' hl hl' hX hb1
  have hz_1 : w.heap.size ≤ v1.heap.size := hB_1.size
  have hl_V_1 := isRow.lt V_1
  have ne_V_1_0 : ¬ g = v1.heap.size := by omega
  have en_V_1_0 : ¬ v1.heap.size = g := by omega
  have hl_L_1 := isRow.lt L_1
  have ne_L_1_0 : ¬ bl = v1.heap.size := by omega
  have en_L_1_0 : ¬ v1.heap.size = bl := by omega
  go_wp2_with fail
  refine (HD.out _).mono ?_
  rintro e v2 ⟨rfl, hb2⟩
  obtain ⟨V_2, V_2'⟩ : Row v2 g (RV R (.slice (some ⟨bl, 0, none⟩) n n) (.int .i64 lost)) := Row.step (by go_simp) (by go_simp) hb2
  obtain ⟨L_2, L_2'⟩ : Row v2 bl C := Row.step (by go_simp) (by go_simp) hb2
  have hB_2 : Aside2 g bl w v2 := Aside2.low (by go_simp) hb2
  clear V_1 V_1' L_1 L_1' hB_1 hb2
  have hz_2 : w.heap.size ≤ v2.heap.size := hB_2.size
  have hl_V_2 := isRow.lt V_2
  have ne_V_2_0 : ¬ g = v2.heap.size := by omega
  have en_V_2_0 : ¬ v2.heap.size = g := by omega
  have hl_L_2 := isRow.lt L_2
  have ne_L_2_0 : ¬ bl = v2.heap.size := by omega
  have en_L_2_0 : ¬ v2.heap.size = bl := by omega
  have ne_V_X : ¬ g = v2.heap.size := by omega
  have en_V_X : ¬ v2.heap.size = g := by omega
  have ne_L_X : ¬ bl = v2.heap.size := by omega
  have en_L_X : ¬ v2.heap.size = bl := by omega
  go_wp2
  go_ret2
  exact ⟨rfl, ⟨by go_simp, by go_simp⟩, ⟨by go_simp, by go_simp⟩, by go_simp⟩
set_option maxRecDepth 100000 in
set_option maxHeartbeats 2000000 in
theorem reoi_3 (g bl : Nat) (R R' : Array Value) (hR : R.size = 70) (n : Nat) (C : Array Value) (lost gp id : Int) (w : World) (hr : isRow w g) (hr' : rowAt w g = (RV R (.slice (some ⟨bl, 0, none⟩) n n) (.int .i64 lost))) (hl : isRow w bl) (hl' : rowAt w bl = C) (hne : ¬ g = bl) (hne' : ¬ bl = g) (hR' : R'.size = 70) (hO : AllOne R') (hsp : ∀ q : 5 < R'.size, R'[5] = .bool true) (HR : Hid (∀ W : World, Calls Try.prog 30 #[.int .i64 id] W fun e w' => e = .returned (.bool true) ∧ Below W.heap.size W w')) (HD : Hid (∀ W : World, Calls Try.prog 96 #[.agg R, .int .i64 gp] W fun e w' => e = .returned (.tuple #[.agg R', .bool true]) ∧ Below W.heap.size W w')) :
    Calls Try.prog 87 #[.pointer (some ⟨g, 0, none⟩), .int .i64 gp, .int .i64 id] w fun e w' => e = .returned (.tuple #[.bool false, .int .i64 (-1)]) ∧ Row w' g (RV R' (.slice (some ⟨bl, 0, none⟩) n n) (.int .i64 lost)) ∧ Row w' bl C ∧ Aside2 g bl w w' := by
  have _u : True := by have _ := hne; have _ := hne'; trivial
  clear _u
  have hX : Aside2 g bl w w := .of_below (Below.refl _ _)
  have lr := hr.lt
  have ll := hl.lt
  have nr : ¬ g = w.heap.size := by omega
  have rn : ¬ w.heap.size = g := by omega
  have nl : ¬ bl = w.heap.size := by omega
  have ln : ¬ w.heap.size = bl := by omega
  have hB_0 : Below w.heap.size w w := Below.refl _ _
  go_enter Try.func87, Try.ntmps87
  go_wp2_with fail
  refine (HR.out _).mono ?_
  rintro e v1 ⟨rfl, hb1⟩
  obtain ⟨V_1, V_1'⟩ : Row v1 g (RV R (.slice (some ⟨bl, 0, none⟩) n n) (.int .i64 lost)) := Row.step (by go_simp) (by go_simp) hb1
  obtain ⟨L_1, L_1'⟩ : Row v1 bl C := Row.step (by go_simp) (by go_simp) hb1
  have hB_1 : Aside2 g bl w v1 := Aside2.low (by go_simp) hb1
  clear hr hr' hl hl' hX hb1
  have hz_1 : w.heap.size ≤ v1.heap.size := hB_1.size
  have hl_V_1 := isRow.lt V_1
  have ne_V_1_0 : ¬ g = v1.heap.size := by omega
  have en_V_1_0 : ¬ v1.heap.size = g := by omega
  have hl_L_1 := isRow.lt L_1
  have ne_L_1_0 : ¬ bl = v1.heap.size := by omega
  have en_L_1_0 : ¬ v1.heap.size = bl := by omega
  go_wp2_with fail
  refine (HD.out _).mono ?_
  rintro e v2 ⟨rfl, hb2⟩
  obtain ⟨V_2, V_2'⟩ : Row v2 g (RV R (.slice (some ⟨bl, 0, none⟩) n n) (.int .i64 lost)) := Row.step (by go_simp) (by go_simp) hb2
  obtain ⟨L_2, L_2'⟩ : Row v2 bl C := Row.step (by go_simp) (by go_simp) hb2
  have hB_2 : Aside2 g bl w v2 := Aside2.low (by go_simp) hb2
  clear V_1 V_1' L_1 L_1' hB_1 hb2
  have hz_2 : w.heap.size ≤ v2.heap.size := hB_2.size
  have hl_V_2 := isRow.lt V_2
  have ne_V_2_0 : ¬ g = v2.heap.size := by omega
  have en_V_2_0 : ¬ v2.heap.size = g := by omega
  have hl_L_2 := isRow.lt L_2
  have ne_L_2_0 : ¬ bl = v2.heap.size := by omega
  have en_L_2_0 : ¬ v2.heap.size = bl := by omega
  have ne_V_X : ¬ g = v2.heap.size := by omega
  have en_V_X : ¬ v2.heap.size = g := by omega
  have ne_L_X : ¬ bl = v2.heap.size := by omega
  have en_L_X : ¬ v2.heap.size = bl := by omega
  go_wp2
  go_ret2
  exact ⟨rfl, ⟨by go_simp, by go_simp⟩, ⟨by go_simp, by go_simp⟩, by go_simp⟩
set_option maxRecDepth 100000 in
set_option maxHeartbeats 2000000 in
theorem reoi_4 (g bl : Nat) (R R' : Array Value) (hR : R.size = 70) (n : Nat) (C C' : Array Value) (lost lost' mm gp id : Int) (ok : Bool) (w : World) (hr : isRow w g) (hr' : rowAt w g = (RV R (.slice (some ⟨bl, 0, none⟩) n n) (.int .i64 lost))) (hl : isRow w bl) (hl' : rowAt w bl = C) (hne : ¬ g = bl) (hne' : ¬ bl = g) (hR' : R'.size = 70) (hO : AllOne R') (hsp : ∀ q : 5 < R'.size, R'[5] = .bool false) (HR : Hid (∀ W : World, Calls Try.prog 30 #[.int .i64 id] W fun e w' => e = .returned (.bool true) ∧ Below W.heap.size W w')) (HD : Hid (∀ W : World, Calls Try.prog 96 #[.agg R, .int .i64 gp] W fun e w' => e = .returned (.tuple #[.agg R', .bool true]) ∧ Below W.heap.size W w')) (HE : Hid (∀ W : World, isRow W g → rowAt W g = (RV R' (.slice (some ⟨bl, 0, none⟩) n n) (.int .i64 lost)) → isRow W bl → rowAt W bl = C → Calls Try.prog 97 #[.pointer (some ⟨g, 0, none⟩), .int .i64 id] W fun e w' => e = .returned (.tuple #[.bool ok, .int .i64 mm]) ∧ Row w' g (RV R' (.slice (some ⟨bl, 0, none⟩) n n) (.int .i64 lost')) ∧ Row w' bl C' ∧ Aside2 g bl W w')) :
    Calls Try.prog 87 #[.pointer (some ⟨g, 0, none⟩), .int .i64 gp, .int .i64 id] w fun e w' => e = .returned (.tuple #[.bool ok, .int .i64 mm]) ∧ Row w' g (RV R' (.slice (some ⟨bl, 0, none⟩) n n) (.int .i64 lost')) ∧ Row w' bl C' ∧ Aside2 g bl w w' := by
  have _u : True := by have _ := hne; have _ := hne'; trivial
  clear _u
  have hX : Aside2 g bl w w := .of_below (Below.refl _ _)
  have lr := hr.lt
  have ll := hl.lt
  have nr : ¬ g = w.heap.size := by omega
  have rn : ¬ w.heap.size = g := by omega
  have nl : ¬ bl = w.heap.size := by omega
  have ln : ¬ w.heap.size = bl := by omega
  have hB_0 : Below w.heap.size w w := Below.refl _ _
  go_enter Try.func87, Try.ntmps87
  go_wp2_with fail
  refine (HR.out _).mono ?_
  rintro e v1 ⟨rfl, hb1⟩
  obtain ⟨V_1, V_1'⟩ : Row v1 g (RV R (.slice (some ⟨bl, 0, none⟩) n n) (.int .i64 lost)) := Row.step (by go_simp) (by go_simp) hb1
  obtain ⟨L_1, L_1'⟩ : Row v1 bl C := Row.step (by go_simp) (by go_simp) hb1
  have hB_1 : Aside2 g bl w v1 := Aside2.low (by go_simp) hb1
  clear hr hr' hl hl' hX hb1
  have hz_1 : w.heap.size ≤ v1.heap.size := hB_1.size
  have hl_V_1 := isRow.lt V_1
  have ne_V_1_0 : ¬ g = v1.heap.size := by omega
  have en_V_1_0 : ¬ v1.heap.size = g := by omega
  have hl_L_1 := isRow.lt L_1
  have ne_L_1_0 : ¬ bl = v1.heap.size := by omega
  have en_L_1_0 : ¬ v1.heap.size = bl := by omega
  go_wp2_with fail
  refine (HD.out _).mono ?_
  rintro e v2 ⟨rfl, hb2⟩
  obtain ⟨V_2, V_2'⟩ : Row v2 g (RV R (.slice (some ⟨bl, 0, none⟩) n n) (.int .i64 lost)) := Row.step (by go_simp) (by go_simp) hb2
  obtain ⟨L_2, L_2'⟩ : Row v2 bl C := Row.step (by go_simp) (by go_simp) hb2
  have hB_2 : Aside2 g bl w v2 := Aside2.low (by go_simp) hb2
  clear V_1 V_1' L_1 L_1' hB_1 hb2
  have hz_2 : w.heap.size ≤ v2.heap.size := hB_2.size
  have hl_V_2 := isRow.lt V_2
  have ne_V_2_0 : ¬ g = v2.heap.size := by omega
  have en_V_2_0 : ¬ v2.heap.size = g := by omega
  have hl_L_2 := isRow.lt L_2
  have ne_L_2_0 : ¬ bl = v2.heap.size := by omega
  have en_L_2_0 : ¬ v2.heap.size = bl := by omega
  have ne_V_X : ¬ g = v2.heap.size := by omega
  have en_V_X : ¬ v2.heap.size = g := by omega
  have ne_L_X : ¬ bl = v2.heap.size := by omega
  have en_L_X : ¬ v2.heap.size = bl := by omega
  go_wp2_with fail
  refine (HE.out _ (by go_simp) (by go_simp) (by go_simp) (by go_simp)).mono ?_
  rintro e v3 ⟨rfl, ⟨V_3, V_3'⟩, ⟨L_3, L_3'⟩, hA3⟩
  obtain ⟨X_3, X_3'⟩ : Row v3 v2.heap.size R' := hA3.row ⟨by go_simp, by go_simp⟩ (by omega) (by omega)
  have hB_3 : Aside2 g bl w v3 := Aside2.trans (by go_simp) hA3
  clear V_2 V_2' L_2 L_2' hB_2 hA3
  have hz_3 : w.heap.size ≤ v3.heap.size := hB_3.size
  have hl_V_3 := isRow.lt V_3
  have ne_V_3_0 : ¬ g = v3.heap.size := by omega
  have en_V_3_0 : ¬ v3.heap.size = g := by omega
  have hl_L_3 := isRow.lt L_3
  have ne_L_3_0 : ¬ bl = v3.heap.size := by omega
  have en_L_3_0 : ¬ v3.heap.size = bl := by omega
  have hl_X_3 := isRow.lt X_3
  have ne_X_3_0 : ¬ v2.heap.size = v3.heap.size := by omega
  have en_X_3_0 : ¬ v3.heap.size = v2.heap.size := by omega
  go_wp2
  go_ret2
  exact ⟨rfl, ⟨by go_simp, by go_simp⟩, ⟨by go_simp, by go_simp⟩, by go_simp⟩
set_option maxRecDepth 100000 in
set_option maxHeartbeats 2000000 in
theorem rdir_1 (g bl : Nat) (R : Array Value) (n : Nat) (C : Array Value) (lost id : Int) (w : World) (hr : isRow w g) (hr' : rowAt w g = (RV R (.slice (some ⟨bl, 0, none⟩) n n) (.int .i64 lost))) (hl : isRow w bl) (hl' : rowAt w bl = C) (hne : ¬ g = bl) (hne' : ¬ bl = g) (HR : Hid (∀ W : World, Calls Try.prog 30 #[.int .i64 id] W fun e w' => e = .returned (.bool false) ∧ Below W.heap.size W w')) :
    Calls Try.prog 88 #[.pointer (some ⟨g, 0, none⟩), .int .i64 id] w fun e w' => e = .returned (.tuple #[.bool false, .int .i64 (-1)]) ∧ Row w' g (RV R (.slice (some ⟨bl, 0, none⟩) n n) (.int .i64 lost)) ∧ Row w' bl C ∧ Aside2 g bl w w' := by
  have _u : True := by have _ := hne; have _ := hne'; trivial
  clear _u
  have hX : Aside2 g bl w w := .of_below (Below.refl _ _)
  have lr := hr.lt
  have ll := hl.lt
  have nr : ¬ g = w.heap.size := by omega
  have rn : ¬ w.heap.size = g := by omega
  have nl : ¬ bl = w.heap.size := by omega
  have ln : ¬ w.heap.size = bl := by omega
  have hB_0 : Below w.heap.size w w := Below.refl _ _
  go_enter Try.func88, Try.ntmps88
  go_wp2_with fail
  refine (HR.out _).mono ?_
  rintro e v1 ⟨rfl, hb1⟩
  obtain ⟨V_1, V_1'⟩ : Row v1 g (RV R (.slice (some ⟨bl, 0, none⟩) n n) (.int .i64 lost)) := Row.step (by go_simp) (by go_simp) hb1
  obtain ⟨L_1, L_1'⟩ : Row v1 bl C := Row.step (by go_simp) (by go_simp) hb1
  have hB_1 : Aside2 g bl w v1 := Aside2.low (by go_simp) hb1
  clear hr hr' hl hl' hX hb1
  have hz_1 : w.heap.size ≤ v1.heap.size := hB_1.size
  have hl_V_1 := isRow.lt V_1
  have ne_V_1_0 : ¬ g = v1.heap.size := by omega
  have en_V_1_0 : ¬ v1.heap.size = g := by omega
  have hl_L_1 := isRow.lt L_1
  have ne_L_1_0 : ¬ bl = v1.heap.size := by omega
  have en_L_1_0 : ¬ v1.heap.size = bl := by omega
  go_wp2
  go_ret2
  exact ⟨rfl, ⟨by go_simp, by go_simp⟩, ⟨by go_simp, by go_simp⟩, by go_simp⟩
set_option maxRecDepth 100000 in
set_option maxHeartbeats 2000000 in
theorem rdir_2 (g bl : Nat) (R : Array Value) (n : Nat) (C : Array Value) (lost id : Int) (w : World) (hr : isRow w g) (hr' : rowAt w g = (RV R (.slice (some ⟨bl, 0, none⟩) n n) (.int .i64 lost))) (hl : isRow w bl) (hl' : rowAt w bl = C) (hne : ¬ g = bl) (hne' : ¬ bl = g) (hR : R.size = 70) (hsp : ∀ q : 5 < R.size, R[5] = .bool false) (HR : Hid (∀ W : World, Calls Try.prog 30 #[.int .i64 id] W fun e w' => e = .returned (.bool true) ∧ Below W.heap.size W w')) :
    Calls Try.prog 88 #[.pointer (some ⟨g, 0, none⟩), .int .i64 id] w fun e w' => e = .returned (.tuple #[.bool false, .int .i64 (-1)]) ∧ Row w' g (RV R (.slice (some ⟨bl, 0, none⟩) n n) (.int .i64 lost)) ∧ Row w' bl C ∧ Aside2 g bl w w' := by
  have _u : True := by have _ := hne; have _ := hne'; trivial
  clear _u
  have hX : Aside2 g bl w w := .of_below (Below.refl _ _)
  have lr := hr.lt
  have ll := hl.lt
  have nr : ¬ g = w.heap.size := by omega
  have rn : ¬ w.heap.size = g := by omega
  have nl : ¬ bl = w.heap.size := by omega
  have ln : ¬ w.heap.size = bl := by omega
  have hB_0 : Below w.heap.size w w := Below.refl _ _
  go_enter Try.func88, Try.ntmps88
  go_wp2_with fail
  refine (HR.out _).mono ?_
  rintro e v1 ⟨rfl, hb1⟩
  obtain ⟨V_1, V_1'⟩ : Row v1 g (RV R (.slice (some ⟨bl, 0, none⟩) n n) (.int .i64 lost)) := Row.step (by go_simp) (by go_simp) hb1
  obtain ⟨L_1, L_1'⟩ : Row v1 bl C := Row.step (by go_simp) (by go_simp) hb1
  have hB_1 : Aside2 g bl w v1 := Aside2.low (by go_simp) hb1
  clear hr hr' hl hl' hX hb1
  have hz_1 : w.heap.size ≤ v1.heap.size := hB_1.size
  have hl_V_1 := isRow.lt V_1
  have ne_V_1_0 : ¬ g = v1.heap.size := by omega
  have en_V_1_0 : ¬ v1.heap.size = g := by omega
  have hl_L_1 := isRow.lt L_1
  have ne_L_1_0 : ¬ bl = v1.heap.size := by omega
  have en_L_1_0 : ¬ v1.heap.size = bl := by omega
  go_wp2
  go_ret2
  exact ⟨rfl, ⟨by go_simp, by go_simp⟩, ⟨by go_simp, by go_simp⟩, by go_simp⟩
set_option maxRecDepth 100000 in
set_option maxHeartbeats 2000000 in
theorem rdir_4 (g bl : Nat) (R : Array Value) (n : Nat) (C C' : Array Value) (lost lost' mm id : Int) (ok : Bool) (w : World) (hr : isRow w g) (hr' : rowAt w g = (RV R (.slice (some ⟨bl, 0, none⟩) n n) (.int .i64 lost))) (hl : isRow w bl) (hl' : rowAt w bl = C) (hne : ¬ g = bl) (hne' : ¬ bl = g) (hR : R.size = 70) (hsp : ∀ q : 5 < R.size, R[5] = .bool true) (HR : Hid (∀ W : World, Calls Try.prog 30 #[.int .i64 id] W fun e w' => e = .returned (.bool true) ∧ Below W.heap.size W w')) (HE : Hid (∀ W : World, isRow W g → rowAt W g = (RV R (.slice (some ⟨bl, 0, none⟩) n n) (.int .i64 lost)) → isRow W bl → rowAt W bl = C → Calls Try.prog 97 #[.pointer (some ⟨g, 0, none⟩), .int .i64 id] W fun e w' => e = .returned (.tuple #[.bool ok, .int .i64 mm]) ∧ Row w' g (RV R (.slice (some ⟨bl, 0, none⟩) n n) (.int .i64 lost')) ∧ Row w' bl C' ∧ Aside2 g bl W w')) :
    Calls Try.prog 88 #[.pointer (some ⟨g, 0, none⟩), .int .i64 id] w fun e w' => e = .returned (.tuple #[.bool ok, .int .i64 mm]) ∧ Row w' g (RV R (.slice (some ⟨bl, 0, none⟩) n n) (.int .i64 lost')) ∧ Row w' bl C' ∧ Aside2 g bl w w' := by
  have _u : True := by have _ := hne; have _ := hne'; trivial
  clear _u
  have hX : Aside2 g bl w w := .of_below (Below.refl _ _)
  have lr := hr.lt
  have ll := hl.lt
  have nr : ¬ g = w.heap.size := by omega
  have rn : ¬ w.heap.size = g := by omega
  have nl : ¬ bl = w.heap.size := by omega
  have ln : ¬ w.heap.size = bl := by omega
  have hB_0 : Below w.heap.size w w := Below.refl _ _
  go_enter Try.func88, Try.ntmps88
  go_wp2_with fail
  refine (HR.out _).mono ?_
  rintro e v1 ⟨rfl, hb1⟩
  obtain ⟨V_1, V_1'⟩ : Row v1 g (RV R (.slice (some ⟨bl, 0, none⟩) n n) (.int .i64 lost)) := Row.step (by go_simp) (by go_simp) hb1
  obtain ⟨L_1, L_1'⟩ : Row v1 bl C := Row.step (by go_simp) (by go_simp) hb1
  have hB_1 : Aside2 g bl w v1 := Aside2.low (by go_simp) hb1
  clear hr hr' hl hl' hX hb1
  have hz_1 : w.heap.size ≤ v1.heap.size := hB_1.size
  have hl_V_1 := isRow.lt V_1
  have ne_V_1_0 : ¬ g = v1.heap.size := by omega
  have en_V_1_0 : ¬ v1.heap.size = g := by omega
  have hl_L_1 := isRow.lt L_1
  have ne_L_1_0 : ¬ bl = v1.heap.size := by omega
  have en_L_1_0 : ¬ v1.heap.size = bl := by omega
  go_wp2_with fail
  refine (HE.out _ (by go_simp) (by go_simp) (by go_simp) (by go_simp)).mono ?_
  rintro e v2 ⟨rfl, ⟨V_2, V_2'⟩, ⟨L_2, L_2'⟩, hA2⟩
  have hB_2 : Aside2 g bl w v2 := Aside2.trans (by go_simp) hA2
  clear V_1 V_1' L_1 L_1' hB_1 hA2
  have hz_2 : w.heap.size ≤ v2.heap.size := hB_2.size
  have hl_V_2 := isRow.lt V_2
  have ne_V_2_0 : ¬ g = v2.heap.size := by omega
  have en_V_2_0 : ¬ v2.heap.size = g := by omega
  have hl_L_2 := isRow.lt L_2
  have ne_L_2_0 : ¬ bl = v2.heap.size := by omega
  have en_L_2_0 : ¬ v2.heap.size = bl := by omega
  go_wp2
  go_ret2
  exact ⟨rfl, ⟨by go_simp, by go_simp⟩, ⟨by go_simp, by go_simp⟩, by go_simp⟩
end Go.Proofs.Ytkbaghblchlcnaa.Lr
namespace Go.Proofs.Ytkbaghblchlcnaa.Lr
open Go.RowKit Go.Shelf Go.Proofs.YtkbaghblchlcnaaW.PrintWords Go.Proofs.Ytkbaghblchlcnaa.IAll
section
variable (sp : Bool) (a b gp id : Int)
def eoiGo : Bool := realC id && (dropB' a b gp && !sp)
def eoiA : Int := if realC id && dropB' a b gp then dropA a b else a
def eoiB : Int := if realC id && dropB' a b gp then dropB a b else b
def dirGo : Bool := realC id && sp
variable (xs : List S54) (go : Bool) (lost : Int)
def gOk : Bool := if go then endOk xs id else false
def gM : Int := if go then endM xs id else -1
def gXs : List S54 := if go then endXs xs id else xs
def gLost : Int := if go then endLost xs id lost else lost
end
theorem RC_sp (m p0 p1 : Int) (o0 o1 sp : Bool) (f : Nat → Bool) : ∀ q : 5 < (RC m p0 p1 o0 o1 sp f).size, (RC m p0 p1 o0 o1 sp f)[5] = .bool sp := fun _ => RC_at5
theorem real_v (id : Int) (W : World) : Calls Try.prog 47 #[.int .i64 id] W fun e w' => e = .returned (.bool (realC id)) ∧ Below W.heap.size W w' := (CReal_c id W).mono fun _ _ h => bs h
theorem real_r (id : Int) (W : World) : Calls Try.prog 30 #[.int .i64 id] W fun e w' => e = .returned (.bool (realC id)) ∧ Below W.heap.size W w' := (RReal_c id W).mono fun _ _ h => bs h
section
variable (g bl : Nat) (m p0 p1 : Int) (o0 o1 sp : Bool) (a b : Int) (xs : List S54) (hx : xs.length ≤ 16) (hst : stOk xs) (lost gp id : Int) (hlo : 0 ≤ lost) (hlo2 : lost ≤ 4611686018427387904) (hne : ¬ g = bl) (w : World)
include hx hst hlo hlo2 hne
theorem eoi_c (hr : isRow w g) (hr' : rowAt w g = #[.int .i64 m, .int .i64 p0, .int .i64 p1, .bool o0, .bool o1, .bool sp, .int .u32 a, .int .u32 b, .slice (some ⟨bl, 0, none⟩) xs.length xs.length, .int .i64 lost]) (hl : isRow w bl) (hl' : rowAt w bl = FA xs) :
    Calls Try.prog 23 #[.pointer (some ⟨g, 0, none⟩), .int .i64 gp, .int .i64 id] w fun e w' => e = .returned (.agg #[.bool (gOk id xs (eoiGo sp a b gp id)), .int .i64 (gM id xs (eoiGo sp a b gp id))]) ∧
      Row w' g #[.int .i64 m, .int .i64 p0, .int .i64 p1, .bool o0, .bool o1, .bool sp, .int .u32 (eoiA a b gp id), .int .u32 (eoiB a b gp id), .slice (some ⟨bl, 0, none⟩) xs.length xs.length, .int .i64 (gLost id xs (eoiGo sp a b gp id) lost)] ∧ Row w' bl (FA (gXs id xs (eoiGo sp a b gp id))) ∧ Aside2 g bl w w' := by
  have hne' : ¬ bl = g := fun e => hne e.symm
  have HR := Lib.hid (fun W : World => real_v id W)
  unfold eoiGo eoiA eoiB gOk gM gXs gLost
  cases h1 : realC id with
  | false =>
    rw [h1] at HR
    simp only [Bool.false_and, Bool.false_eq_true, if_false]
    exact eoi_1 g bl m p0 p1 o0 o1 sp a b xs.length (FA xs) lost gp id w hr hr' hl hl' hne hne' HR
  | true =>
    rw [h1] at HR
    simp only [Bool.true_and]
    cases h2 : dropB' a b gp with
    | false =>
      have HD := Lib.hid (fun (W : World) (q : isRow W g) (q' : rowAt W g = #[.int .i64 m, .int .i64 p0, .int .i64 p1, .bool o0, .bool o1, .bool sp, .int .u32 a, .int .u32 b, .slice (some ⟨bl, 0, none⟩) xs.length xs.length, .int .i64 lost]) => IfDrop_c g m p0 p1 o0 o1 sp a b _ _ gp W q q')
      rw [h2] at HD
      simp only [Bool.false_eq_true, if_false] at HD
      simp only [Bool.false_and, Bool.false_eq_true, if_false]
      exact eoi_2 g bl m p0 p1 o0 o1 sp a b xs.length (FA xs) lost gp id w hr hr' hl hl' hne hne' HR HD
    | true =>
      have HD := Lib.hid (fun (W : World) (q : isRow W g) (q' : rowAt W g = #[.int .i64 m, .int .i64 p0, .int .i64 p1, .bool o0, .bool o1, .bool sp, .int .u32 a, .int .u32 b, .slice (some ⟨bl, 0, none⟩) xs.length xs.length, .int .i64 lost]) => IfDrop_c g m p0 p1 o0 o1 sp a b _ _ gp W q q')
      rw [h2] at HD
      simp only [if_true] at HD
      cases sp with
      | true =>
        simp only [Bool.not_true, Bool.and_false, Bool.false_eq_true, if_false, if_true]
        exact eoi_3 g bl m p0 p1 o0 o1 a b _ _ xs.length (FA xs) lost gp id w hr hr' hl hl' hne hne' HR HD
      | false =>
        simp only [Bool.not_false, Bool.and_true, if_true]
        have HE := Lib.hid (fun (W : World) (q : isRow W g) (q' : rowAt W g = #[.int .i64 m, .int .i64 p0, .int .i64 p1, .bool o0, .bool o1, .bool false, .int .u32 (dropA a b), .int .u32 (dropB a b), .slice (some ⟨bl, 0, none⟩) xs.length xs.length, .int .i64 lost]) (k : isRow W bl) (k' : rowAt W bl = FA xs) =>
          end_c g bl m p0 p1 o0 o1 false (dropA a b) (dropB a b) xs hx hst lost id hlo hlo2 hne W q q' k k')
        exact eoi_4 g bl m p0 p1 o0 o1 a b _ _ xs.length (FA xs) _ lost _ _ gp id _ w hr hr' hl hl' hne hne' HR HD HE
theorem dir_c (hr : isRow w g) (hr' : rowAt w g = #[.int .i64 m, .int .i64 p0, .int .i64 p1, .bool o0, .bool o1, .bool sp, .int .u32 a, .int .u32 b, .slice (some ⟨bl, 0, none⟩) xs.length xs.length, .int .i64 lost]) (hl : isRow w bl) (hl' : rowAt w bl = FA xs) :
    Calls Try.prog 24 #[.pointer (some ⟨g, 0, none⟩), .int .i64 id] w fun e w' => e = .returned (.agg #[.bool (gOk id xs (dirGo sp id)), .int .i64 (gM id xs (dirGo sp id))]) ∧
      Row w' g #[.int .i64 m, .int .i64 p0, .int .i64 p1, .bool o0, .bool o1, .bool sp, .int .u32 a, .int .u32 b, .slice (some ⟨bl, 0, none⟩) xs.length xs.length, .int .i64 (gLost id xs (dirGo sp id) lost)] ∧ Row w' bl (FA (gXs id xs (dirGo sp id))) ∧ Aside2 g bl w w' := by
  have hne' : ¬ bl = g := fun e => hne e.symm
  have HR := Lib.hid (fun W : World => real_v id W)
  unfold dirGo gOk gM gXs gLost
  cases h1 : realC id with
  | false =>
    rw [h1] at HR
    simp only [Bool.false_and, Bool.false_eq_true, if_false]
    exact dir_1 g bl m p0 p1 o0 o1 sp a b xs.length (FA xs) lost id w hr hr' hl hl' hne hne' HR
  | true =>
    rw [h1] at HR
    simp only [Bool.true_and]
    cases sp with
    | false =>
      simp only [Bool.false_eq_true, if_false]
      exact dir_2 g bl m p0 p1 o0 o1 a b xs.length (FA xs) lost id w hr hr' hl hl' hne hne' HR
    | true =>
      simp only [if_true]
      have HE := Lib.hid (fun (W : World) (q : isRow W g) (q' : rowAt W g = #[.int .i64 m, .int .i64 p0, .int .i64 p1, .bool o0, .bool o1, .bool true, .int .u32 a, .int .u32 b, .slice (some ⟨bl, 0, none⟩) xs.length xs.length, .int .i64 lost]) (k : isRow W bl) (k' : rowAt W bl = FA xs) =>
        end_c g bl m p0 p1 o0 o1 true a b xs hx hst lost id hlo hlo2 hne W q q' k k')
      exact dir_4 g bl m p0 p1 o0 o1 a b xs.length (FA xs) _ lost _ _ id _ w hr hr' hl hl' hne hne' HR HE
theorem reoi_c (hr : isRow w g) (hr' : rowAt w g = RV (RC m p0 p1 o0 o1 sp (rb a b)) (.slice (some ⟨bl, 0, none⟩) xs.length xs.length) (.int .i64 lost)) (hl : isRow w bl) (hl' : rowAt w bl = FA xs) :
    Calls Try.prog 87 #[.pointer (some ⟨g, 0, none⟩), .int .i64 gp, .int .i64 id] w fun e w' => e = .returned (.tuple #[.bool (gOk id xs (eoiGo sp a b gp id)), .int .i64 (gM id xs (eoiGo sp a b gp id))]) ∧
      Row w' g (RV (RC m p0 p1 o0 o1 sp (rb (eoiA a b gp id) (eoiB a b gp id))) (.slice (some ⟨bl, 0, none⟩) xs.length xs.length) (.int .i64 (gLost id xs (eoiGo sp a b gp id) lost))) ∧ Row w' bl (FA (gXs id xs (eoiGo sp a b gp id))) ∧ Aside2 g bl w w' := by
  have hne' : ¬ bl = g := fun e => hne e.symm
  have HR := Lib.hid (fun W : World => real_r id W)
  have HD := Lib.hid (fun W : World => rDropI_c m p0 p1 o0 o1 sp a b gp W)
  unfold eoiGo eoiA eoiB gOk gM gXs gLost
  cases h1 : realC id with
  | false =>
    rw [h1] at HR
    simp only [Bool.false_and, Bool.false_eq_true, if_false]
    exact reoi_1 g bl _ xs.length (FA xs) lost gp id w hr hr' hl hl' hne hne' HR
  | true =>
    rw [h1] at HR
    simp only [Bool.true_and]
    cases h2 : dropB' a b gp with
    | false =>
      rw [h2] at HD
      simp only [Bool.false_eq_true, if_false] at HD
      simp only [Bool.false_and, Bool.false_eq_true, if_false]
      exact reoi_2 g bl _ _ RC_size xs.length (FA xs) lost gp id w hr hr' hl hl' hne hne' RC_size RC_one HR HD
    | true =>
      rw [h2] at HD
      simp only [if_true] at HD
      cases sp with
      | true =>
        simp only [Bool.not_true, Bool.and_false, Bool.false_eq_true, if_false, if_true]
        exact reoi_3 g bl _ _ RC_size xs.length (FA xs) lost gp id w hr hr' hl hl' hne hne' RC_size RC_one (RC_sp _ _ _ _ _ _ _) HR HD
      | false =>
        simp only [Bool.not_false, Bool.and_true, if_true]
        have HE := Lib.hid (fun (W : World) (q : isRow W g) (q' : rowAt W g = RV (RC m p0 p1 o0 o1 false (rb (dropA a b) (dropB a b))) (.slice (some ⟨bl, 0, none⟩) xs.length xs.length) (.int .i64 lost)) (k : isRow W bl) (k' : rowAt W bl = FA xs) =>
          rend_c g bl _ RC_size xs hx hst lost id hlo hlo2 hne W q q' k k')
        exact reoi_4 g bl _ _ RC_size xs.length (FA xs) _ lost _ _ gp id _ w hr hr' hl hl' hne hne' RC_size RC_one (RC_sp _ _ _ _ _ _ _) HR HD HE
theorem rdir_c (hr : isRow w g) (hr' : rowAt w g = RV (RC m p0 p1 o0 o1 sp (rb a b)) (.slice (some ⟨bl, 0, none⟩) xs.length xs.length) (.int .i64 lost)) (hl : isRow w bl) (hl' : rowAt w bl = FA xs) :
    Calls Try.prog 88 #[.pointer (some ⟨g, 0, none⟩), .int .i64 id] w fun e w' => e = .returned (.tuple #[.bool (gOk id xs (dirGo sp id)), .int .i64 (gM id xs (dirGo sp id))]) ∧
      Row w' g (RV (RC m p0 p1 o0 o1 sp (rb a b)) (.slice (some ⟨bl, 0, none⟩) xs.length xs.length) (.int .i64 (gLost id xs (dirGo sp id) lost))) ∧ Row w' bl (FA (gXs id xs (dirGo sp id))) ∧ Aside2 g bl w w' := by
  have hne' : ¬ bl = g := fun e => hne e.symm
  have HR := Lib.hid (fun W : World => real_r id W)
  unfold dirGo gOk gM gXs gLost
  cases h1 : realC id with
  | false =>
    rw [h1] at HR
    simp only [Bool.false_and, Bool.false_eq_true, if_false]
    exact rdir_1 g bl _ xs.length (FA xs) lost id w hr hr' hl hl' hne hne' HR
  | true =>
    rw [h1] at HR
    simp only [Bool.true_and]
    cases sp with
    | false =>
      simp only [Bool.false_eq_true, if_false]
      exact rdir_2 g bl _ xs.length (FA xs) lost id w hr hr' hl hl' hne hne' RC_size (RC_sp _ _ _ _ _ _ _) HR
    | true =>
      simp only [if_true]
      have HE := Lib.hid (fun (W : World) (q : isRow W g) (q' : rowAt W g = RV (RC m p0 p1 o0 o1 true (rb a b)) (.slice (some ⟨bl, 0, none⟩) xs.length xs.length) (.int .i64 lost)) (k : isRow W bl) (k' : rowAt W bl = FA xs) =>
        rend_c g bl _ RC_size xs hx hst lost id hlo hlo2 hne W q q' k k')
      exact rdir_4 g bl _ xs.length (FA xs) _ lost _ _ id _ w hr hr' hl hl' hne hne' RC_size (RC_sp _ _ _ _ _ _ _) HR HE
end
end Go.Proofs.Ytkbaghblchlcnaa.Lr
namespace Go.Proofs.Ytkbaghblchlcnaa.Lr
open Go.RowKit Go.Shelf Go.Proofs.YtkbaghblchlcnaaW.PrintWords Go.Proofs.Ytkbaghblchlcnaa.IAll
attribute [local go_sem] Oper.semAt_some cell_row frozen_row isRow_setCell_eq rowAt_setCell_same rowAt_setCell_other isRow_alloc_eq rowAt_alloc rowAt_new rowAt_new' isRow_setRow_eq rowAt_setRow_same rowAt_setRow_other isRow_drew rowAt_drew size_setRow_ Lb_size Lb_at blk_ptr aggOf_agg below_alloc_e below_setCell_e below_setRow_e below_refl_e below_drew_r aside2_alloc_e aside2_setCell_e aside2_setRow_e aside2_drew_e aside2_refl_e aside2_drewN_e isRow_drewN rowAt_drewN below_drewN_e le_add_r offv_ptr one_lad zero_lad allOne_nil allOne_cons Value.oneCell' addr_at FA_size one_FA
attribute [local go_sem ↓] storeI storeC storeE
attribute [local go_sem] eq2i eq2b eq2u
theorem resD (fn : Func) {p u u2 : Tmp} {x : Bool} {y : Int} {g : Nat} (h : fn.results = #[.tmp u, .cell p 57, .tmp u2]) (tmps : Array Value) (w : World) (hp : tmps.getD p undef = .pointer (some ⟨g, 0, none⟩)) (hg : Row w g #[.bool x, .int .i64 y]) {v v2 : Value} (hv : tmps.getD u undef = v) (hv2 : tmps.getD u2 undef = v2) : (results fn tmps).run Try.prog w = .ok (.tuple #[v, .agg #[.bool x, .int .i64 y], v2]) w := by
  obtain ⟨t, ht⟩ := hg.box
  have hl := run_loadVar_row w g t 57 _ (0, 0) _ ht Try.underlying57 rfl infoE
  have hp' : tmps[p]?.getD undef = .pointer (some ⟨g, 0, none⟩) := by simpa using hp
  have hv' : tmps[u]?.getD undef = v := by simpa using hv
  have hv2' : tmps[u2]?.getD undef = v2 := by simpa using hv2
  simp only [results, h]
  simp [Result.andThen, asAddr, hp', hl, hv', hv2']
set_option maxRecDepth 100000 in
set_option maxHeartbeats 4000000 in
theorem do_a0 (g bl : Nat) (m p0 p1 : Int) (o0 o1 sp : Bool) (a b : Int) (n : Nat) (C : Array Value) (lost : Int) (m' p0' p1' : Int) (o0' o1' sp' : Bool) (a' b' : Int) (C' : Array Value) (lost' : Int) (w : World) (hr : isRow w g) (hr' : rowAt w g = #[.int .i64 m, .int .i64 p0, .int .i64 p1, .bool o0, .bool o1, .bool sp, .int .u32 a, .int .u32 b, .slice (some ⟨bl, 0, none⟩) n n, .int .i64 lost]) (hl : isRow w bl) (hl' : rowAt w bl = C) (hne : ¬ g = bl) (hne' : ¬ bl = g) (x y : Int) (hy : bits .and .u64 x 16777215 = y) (y0 : 0 ≤ y) (y1 : y ≤ 16777215) (id : Int) (HA : Hid (∀ W : World, isRow W g → rowAt W g = #[.int .i64 m, .int .i64 p0, .int .i64 p1, .bool o0, .bool o1, .bool sp, .int .u32 a, .int .u32 b, .slice (some ⟨bl, 0, none⟩) n n, .int .i64 lost] → isRow W bl → rowAt W bl = C → Calls Try.prog 17 #[.pointer (some ⟨g, 0, none⟩), .int .i64 0] W fun e w' => e = .returned (.int .i64 id) ∧ Row w' g #[.int .i64 m', .int .i64 p0', .int .i64 p1', .bool o0', .bool o1', .bool sp', .int .u32 a', .int .u32 b', .slice (some ⟨bl, 0, none⟩) n n, .int .i64 lost'] ∧ Row w' bl C' ∧ Aside2 g bl W w')) :
    Calls Try.prog 28 #[.pointer (some ⟨g, 0, none⟩), .int .i64 1, .bool false, .int .u64 x] w fun e w' => e = .returned (.tuple #[.int .u64 (IntKind.u64.wrap id), .agg #[.bool false, .int .i64 (-1)], .bool true]) ∧ Row w' g #[.int .i64 m', .int .i64 p0', .int .i64 p1', .bool o0', .bool o1', .bool sp', .int .u32 a', .int .u32 b', .slice (some ⟨bl, 0, none⟩) n n, .int .i64 lost'] ∧ Row w' bl C' ∧ Aside2 g bl w w' := by
  have _u : True := by have _ := hne; have _ := hne'; have _ := y0; have _ := y1; trivial
  clear _u
  have hX : Aside2 g bl w w := .of_below (Below.refl _ _)
  have lr := hr.lt
  have ll := hl.lt
  have nr : ¬ g = w.heap.size := by omega
  have rn : ¬ w.heap.size = g := by omega
  have nl : ¬ bl = w.heap.size := by omega
  have ln : ¬ w.heap.size = bl := by omega
  have nr1 : ¬ g = w.heap.size + 1 := by omega
  have rn1 : ¬ w.heap.size + 1 = g := by omega
  have nl1 : ¬ bl = w.heap.size + 1 := by omega
  have ln1 : ¬ w.heap.size + 1 = bl := by omega
  have hB_0 : Below w.heap.size w w := Below.refl _ _
  have ne_V_E : ¬ g = w.heap.size := by omega
  have en_V_E : ¬ w.heap.size = g := by omega
  have ne_L_E : ¬ bl = w.heap.size := by omega
  have en_L_E : ¬ w.heap.size = bl := by omega
  have ne_V_N : ¬ g = (w.heap.size + 1) := by omega
  have en_V_N : ¬ (w.heap.size + 1) = g := by omega
  have ne_L_N : ¬ bl = (w.heap.size + 1) := by omega
  have en_L_N : ¬ (w.heap.size + 1) = bl := by omega
  have ne_E_N : ¬ w.heap.size = (w.heap.size + 1) := by omega
  have en_E_N : ¬ (w.heap.size + 1) = w.heap.size := by omega
  go_enter Try.func28, Try.ntmps28
  go_wp2_with fail
  refine wp_named (fun W_ => (isRow W_ g ∧ rowAt W_ g = #[.int .i64 m, .int .i64 p0, .int .i64 p1, .bool o0, .bool o1, .bool sp, .int .u32 a, .int .u32 b, .slice (some ⟨bl, 0, none⟩) n n, .int .i64 lost]) ∧ (isRow W_ bl ∧ rowAt W_ bl = C) ∧ (isRow W_ w.heap.size ∧ rowAt W_ w.heap.size = #[.bool false, .int .i64 0]) ∧ (isRow W_ (w.heap.size + 1) ∧ rowAt W_ (w.heap.size + 1) = #[.bool false, .int .i64 (-1)]) ∧ Aside2 g bl w W_) (by refine ⟨⟨by go_simp, by go_simp⟩, ⟨by go_simp, by go_simp⟩, ⟨by go_simp, by go_simp⟩, ⟨by go_simp, by go_simp⟩, by go_simp⟩) ?_
  rintro v1 ⟨⟨V_1, V_1'⟩, ⟨L_1, L_1'⟩, ⟨E_1, E_1'⟩, ⟨N_1, N_1'⟩, hB_1⟩
  clear hr hr' hl hl' hX
  have hz_1 : w.heap.size ≤ v1.heap.size := hB_1.size
  have hl_V_1 := isRow.lt V_1
  have hl_L_1 := isRow.lt L_1
  have hl_E_1 := isRow.lt E_1
  have hl_N_1 := isRow.lt N_1
  refine wp_region_held_drew (S := fun w' => (isRow w' w.heap.size ∧ (rowAt w' w.heap.size).size = 2) ∧ (isRow w' (w.heap.size + 1) ∧ rowAt w' (w.heap.size + 1) = #[.bool false, .int .i64 (-1)]) ∧ Aside2 g bl w w') (by kernel_rfl) ⟨⟨by go_simp, by go_simp⟩, ⟨by go_simp, by go_simp⟩, by go_simp⟩ (fun hHeld => ?_)
  refine wpAnyH_take (i := 0) (oi := { dst := some 26, op := Op.move (Operand.tmp 0), type := 24, pos := "vcpu.go:161", after := #[], guard := none }) (v := ?_) rfl (by kernel_rfl) (by kernel_rfl) (by kernel_rfl) (fun _ _ _ h => h) (Or.inl ⟨by rfl, ?_⟩) (by assumption) ?_
  rotate_left
  · (intro w_ hS_; (try dsimp only at hS_); go_simp; try with_reducible rfl)
  try simp only [Act.put, List.setIfInBounds_toArray, List.set_cons_zero, List.set_cons_succ]
  refine wpAnyH_take (i := 3) (oi := { dst := some 29, op := Op.load 57 (Operand.tmp 11), type := 57, pos := "vcpu.go:161", after := #[{ on := 4, ground := Ground.gcOnly Departure.lateStores }], guard := none }) (v := ?_) rfl (by kernel_rfl) (by kernel_rfl) (by kernel_rfl) (fun _ _ _ h => h) (Or.inl ⟨by rfl, ?_⟩) (by assumption) ?_
  rotate_left
  · (intro w_ hS_; (try dsimp only at hS_); go_simp; try with_reducible rfl)
  try simp only [Act.put, List.setIfInBounds_toArray, List.set_cons_zero, List.set_cons_succ]
  refine wpAnyH_ready (rs := [1]) (by kernel_rfl) (by simp) ?_
  refine AllReadyH.cons (o := { dst := some 27, op := Op.call { callee := Callee.value (Operand.func 17), args := #[Operand.tmp 26, Operand.const (Value.int IntKind.i64 0)], argTypes := #[24, 3] }, type := 3, pos := "vcpu.go:161", after := #[{ on := 0, ground := Ground.data }], guard := none }) rfl (fun K hK => ?_) AllReadyH.nil
  (have hq_ := hHeld; (try dsimp only at hq_))
  obtain ⟨⟨PE_2_1, PE_2_1'⟩, ⟨PN_2_1, PN_2_1'⟩, hF_2_1⟩ := hq_
  go_simp
  refine (HA.out _ (by go_simp) (by go_simp) (by go_simp) (by go_simp)).mono ?_
  rintro e u2_1 ⟨rfl, ⟨V_2_1, V_2_1'⟩, ⟨L_2_1, L_2_1'⟩, hA2_1⟩
  refine hK.out _ _ ?_ (fun hHeld => ?_)
  · exact ⟨⟨(hA2_1.row ⟨PE_2_1, rfl⟩ (by omega) (by omega)).1, by rw [(hA2_1.row ⟨PE_2_1, rfl⟩ (by omega) (by omega)).2]; exact PE_2_1'⟩, ⟨(hA2_1.row ⟨PN_2_1, rfl⟩ (by omega) (by omega)).1, by rw [(hA2_1.row ⟨PN_2_1, rfl⟩ (by omega) (by omega)).2]; exact PN_2_1'⟩, Aside2.trans hF_2_1 hA2_1⟩
  clear hK K
  try simp only [Act.put, List.setIfInBounds_toArray, List.set_cons_zero, List.set_cons_succ]
  refine wpAnyH_take (i := 2) (oi := { dst := some 28, op := Op.convert 3 67 (Operand.tmp 27), type := 67, pos := "vcpu.go:161", after := #[{ on := 1, ground := Ground.data }], guard := none }) (v := ?_) rfl (by kernel_rfl) (by kernel_rfl) (by kernel_rfl) (fun _ _ _ h => h) (Or.inl ⟨by rfl, ?_⟩) (by assumption) ?_
  rotate_left
  · (intro w_ hS_; (try dsimp only at hS_); go_simp; try with_reducible rfl)
  try simp only [Act.put, List.setIfInBounds_toArray, List.set_cons_zero, List.set_cons_succ]
  refine wpAnyH_take (i := 4) (oi := { dst := some 8, op := Op.assign (Operand.tmp 28), type := 67, pos := "vcpu.go:161", after := #[{ on := 2, ground := Ground.data }, { on := 1, ground := Ground.chain }, { on := 0, ground := Ground.phase }, { on := 1, ground := Ground.phase }, { on := 2, ground := Ground.phase }, { on := 3, ground := Ground.textOnly Departure.lateStores }], guard := none }) (v := ?_) rfl (by kernel_rfl) (by kernel_rfl) (by kernel_rfl) (fun _ _ _ h => h) (Or.inl ⟨by rfl, ?_⟩) (by assumption) ?_
  rotate_left
  · (intro w_ hS_; (try dsimp only at hS_); go_simp; try with_reducible rfl)
  try simp only [Act.put, List.setIfInBounds_toArray, List.set_cons_zero, List.set_cons_succ]
  refine wpAnyH_ready (rs := [5]) (by kernel_rfl) (by simp) ?_
  refine AllReadyH.cons (o := { dst := none, op := Op.store 57 (Operand.tmp 9) (Operand.tmp 29), type := 0, pos := "vcpu.go:161", after := #[{ on := 3, ground := Ground.data }, { on := 4, ground := Ground.chain }, { on := 0, ground := Ground.phase }, { on := 1, ground := Ground.phase }, { on := 2, ground := Ground.phase }, { on := 3, ground := Ground.phase }, { on := 4, ground := Ground.phase }], guard := none }) rfl (fun K hK => ?_) AllReadyH.nil
  (have hq_ := hHeld; (try dsimp only at hq_))
  obtain ⟨⟨PE_2_2, PE_2_2'⟩, ⟨PN_2_2, PN_2_2'⟩, hF_2_2⟩ := hq_
  go_simp
  refine hK.out _ _ ?_ (fun hHeld => ?_)
  · (refine ⟨⟨by go_simp, by go_simp⟩, ⟨by go_simp, by go_simp⟩, by go_simp⟩)
  clear hK K
  try simp only [Act.put, List.setIfInBounds_toArray, List.set_cons_zero, List.set_cons_succ]
  refine wpAnyH_take (i := 6) (oi := { dst := some 10, op := Op.assign (Operand.const (Value.bool true)), type := 4, pos := "vcpu.go:161", after := #[{ on := 5, ground := Ground.chain }, { on := 0, ground := Ground.phase }, { on := 1, ground := Ground.phase }, { on := 2, ground := Ground.phase }, { on := 3, ground := Ground.phase }, { on := 4, ground := Ground.phase }, { on := 5, ground := Ground.phase }], guard := none }) (v := ?_) rfl (by kernel_rfl) (by kernel_rfl) (by kernel_rfl) (fun _ _ _ h => h) (Or.inl ⟨by rfl, ?_⟩) (by assumption) ?_
  rotate_left
  · (intro w_ hS_; (try dsimp only at hS_); go_simp; try with_reducible rfl)
  try simp only [Act.put, List.setIfInBounds_toArray, List.set_cons_zero, List.set_cons_succ]
  refine wpAnyH_done (by kernel_rfl) ?_ _
  (try dsimp only at hHeld)
  go_split_ands
  go_wp2
  exact bodyPost_ret (resD _ rfl _ _ (x := false) (y := (-1)) (g := w.heap.size) rfl ⟨by go_simp, by go_simp⟩ rfl rfl) rfl ⟨rfl, ⟨by go_simp, by go_simp⟩, ⟨by go_simp, by go_simp⟩, by go_simp⟩
set_option maxRecDepth 100000 in
set_option maxHeartbeats 4000000 in
theorem do_a1 (g bl : Nat) (m p0 p1 : Int) (o0 o1 sp : Bool) (a b : Int) (n : Nat) (C : Array Value) (lost : Int) (m' p0' p1' : Int) (o0' o1' sp' : Bool) (a' b' : Int) (C' : Array Value) (lost' : Int) (w : World) (hr : isRow w g) (hr' : rowAt w g = #[.int .i64 m, .int .i64 p0, .int .i64 p1, .bool o0, .bool o1, .bool sp, .int .u32 a, .int .u32 b, .slice (some ⟨bl, 0, none⟩) n n, .int .i64 lost]) (hl : isRow w bl) (hl' : rowAt w bl = C) (hne : ¬ g = bl) (hne' : ¬ bl = g) (x y : Int) (hy : bits .and .u64 x 16777215 = y) (y0 : 0 ≤ y) (y1 : y ≤ 16777215) (id : Int) (HA : Hid (∀ W : World, isRow W g → rowAt W g = #[.int .i64 m, .int .i64 p0, .int .i64 p1, .bool o0, .bool o1, .bool sp, .int .u32 a, .int .u32 b, .slice (some ⟨bl, 0, none⟩) n n, .int .i64 lost] → isRow W bl → rowAt W bl = C → Calls Try.prog 17 #[.pointer (some ⟨g, 0, none⟩), .int .i64 1] W fun e w' => e = .returned (.int .i64 id) ∧ Row w' g #[.int .i64 m', .int .i64 p0', .int .i64 p1', .bool o0', .bool o1', .bool sp', .int .u32 a', .int .u32 b', .slice (some ⟨bl, 0, none⟩) n n, .int .i64 lost'] ∧ Row w' bl C' ∧ Aside2 g bl W w')) :
    Calls Try.prog 28 #[.pointer (some ⟨g, 0, none⟩), .int .i64 2, .bool false, .int .u64 x] w fun e w' => e = .returned (.tuple #[.int .u64 (IntKind.u64.wrap id), .agg #[.bool false, .int .i64 (-1)], .bool true]) ∧ Row w' g #[.int .i64 m', .int .i64 p0', .int .i64 p1', .bool o0', .bool o1', .bool sp', .int .u32 a', .int .u32 b', .slice (some ⟨bl, 0, none⟩) n n, .int .i64 lost'] ∧ Row w' bl C' ∧ Aside2 g bl w w' := by
  have _u : True := by have _ := hne; have _ := hne'; have _ := y0; have _ := y1; trivial
  clear _u
  have hX : Aside2 g bl w w := .of_below (Below.refl _ _)
  have lr := hr.lt
  have ll := hl.lt
  have nr : ¬ g = w.heap.size := by omega
  have rn : ¬ w.heap.size = g := by omega
  have nl : ¬ bl = w.heap.size := by omega
  have ln : ¬ w.heap.size = bl := by omega
  have nr1 : ¬ g = w.heap.size + 1 := by omega
  have rn1 : ¬ w.heap.size + 1 = g := by omega
  have nl1 : ¬ bl = w.heap.size + 1 := by omega
  have ln1 : ¬ w.heap.size + 1 = bl := by omega
  have hB_0 : Below w.heap.size w w := Below.refl _ _
  have ne_V_E : ¬ g = w.heap.size := by omega
  have en_V_E : ¬ w.heap.size = g := by omega
  have ne_L_E : ¬ bl = w.heap.size := by omega
  have en_L_E : ¬ w.heap.size = bl := by omega
  have ne_V_N : ¬ g = (w.heap.size + 1) := by omega
  have en_V_N : ¬ (w.heap.size + 1) = g := by omega
  have ne_L_N : ¬ bl = (w.heap.size + 1) := by omega
  have en_L_N : ¬ (w.heap.size + 1) = bl := by omega
  have ne_E_N : ¬ w.heap.size = (w.heap.size + 1) := by omega
  have en_E_N : ¬ (w.heap.size + 1) = w.heap.size := by omega
  go_enter Try.func28, Try.ntmps28
  go_wp2_with fail
  refine wp_named (fun W_ => (isRow W_ g ∧ rowAt W_ g = #[.int .i64 m, .int .i64 p0, .int .i64 p1, .bool o0, .bool o1, .bool sp, .int .u32 a, .int .u32 b, .slice (some ⟨bl, 0, none⟩) n n, .int .i64 lost]) ∧ (isRow W_ bl ∧ rowAt W_ bl = C) ∧ (isRow W_ w.heap.size ∧ rowAt W_ w.heap.size = #[.bool false, .int .i64 0]) ∧ (isRow W_ (w.heap.size + 1) ∧ rowAt W_ (w.heap.size + 1) = #[.bool false, .int .i64 (-1)]) ∧ Aside2 g bl w W_) (by refine ⟨⟨by go_simp, by go_simp⟩, ⟨by go_simp, by go_simp⟩, ⟨by go_simp, by go_simp⟩, ⟨by go_simp, by go_simp⟩, by go_simp⟩) ?_
  rintro v1 ⟨⟨V_1, V_1'⟩, ⟨L_1, L_1'⟩, ⟨E_1, E_1'⟩, ⟨N_1, N_1'⟩, hB_1⟩
  clear hr hr' hl hl' hX
  have hz_1 : w.heap.size ≤ v1.heap.size := hB_1.size
  have hl_V_1 := isRow.lt V_1
  have hl_L_1 := isRow.lt L_1
  have hl_E_1 := isRow.lt E_1
  have hl_N_1 := isRow.lt N_1
  refine wp_region_held_drew (S := fun w' => (isRow w' w.heap.size ∧ (rowAt w' w.heap.size).size = 2) ∧ (isRow w' (w.heap.size + 1) ∧ rowAt w' (w.heap.size + 1) = #[.bool false, .int .i64 (-1)]) ∧ Aside2 g bl w w') (by kernel_rfl) ⟨⟨by go_simp, by go_simp⟩, ⟨by go_simp, by go_simp⟩, by go_simp⟩ (fun hHeld => ?_)
  refine wpAnyH_take (i := 0) (oi := { dst := some 37, op := Op.move (Operand.tmp 0), type := 24, pos := "vcpu.go:163", after := #[], guard := none }) (v := ?_) rfl (by kernel_rfl) (by kernel_rfl) (by kernel_rfl) (fun _ _ _ h => h) (Or.inl ⟨by rfl, ?_⟩) (by assumption) ?_
  rotate_left
  · (intro w_ hS_; (try dsimp only at hS_); go_simp; try with_reducible rfl)
  try simp only [Act.put, List.setIfInBounds_toArray, List.set_cons_zero, List.set_cons_succ]
  refine wpAnyH_take (i := 3) (oi := { dst := some 40, op := Op.load 57 (Operand.tmp 11), type := 57, pos := "vcpu.go:163", after := #[{ on := 4, ground := Ground.gcOnly Departure.lateStores }], guard := none }) (v := ?_) rfl (by kernel_rfl) (by kernel_rfl) (by kernel_rfl) (fun _ _ _ h => h) (Or.inl ⟨by rfl, ?_⟩) (by assumption) ?_
  rotate_left
  · (intro w_ hS_; (try dsimp only at hS_); go_simp; try with_reducible rfl)
  try simp only [Act.put, List.setIfInBounds_toArray, List.set_cons_zero, List.set_cons_succ]
  refine wpAnyH_ready (rs := [1]) (by kernel_rfl) (by simp) ?_
  refine AllReadyH.cons (o := { dst := some 38, op := Op.call { callee := Callee.value (Operand.func 17), args := #[Operand.tmp 37, Operand.const (Value.int IntKind.i64 1)], argTypes := #[24, 3] }, type := 3, pos := "vcpu.go:163", after := #[{ on := 0, ground := Ground.data }], guard := none }) rfl (fun K hK => ?_) AllReadyH.nil
  (have hq_ := hHeld; (try dsimp only at hq_))
  obtain ⟨⟨PE_2_1, PE_2_1'⟩, ⟨PN_2_1, PN_2_1'⟩, hF_2_1⟩ := hq_
  go_simp
  refine (HA.out _ (by go_simp) (by go_simp) (by go_simp) (by go_simp)).mono ?_
  rintro e u2_1 ⟨rfl, ⟨V_2_1, V_2_1'⟩, ⟨L_2_1, L_2_1'⟩, hA2_1⟩
  refine hK.out _ _ ?_ (fun hHeld => ?_)
  · exact ⟨⟨(hA2_1.row ⟨PE_2_1, rfl⟩ (by omega) (by omega)).1, by rw [(hA2_1.row ⟨PE_2_1, rfl⟩ (by omega) (by omega)).2]; exact PE_2_1'⟩, ⟨(hA2_1.row ⟨PN_2_1, rfl⟩ (by omega) (by omega)).1, by rw [(hA2_1.row ⟨PN_2_1, rfl⟩ (by omega) (by omega)).2]; exact PN_2_1'⟩, Aside2.trans hF_2_1 hA2_1⟩
  clear hK K
  try simp only [Act.put, List.setIfInBounds_toArray, List.set_cons_zero, List.set_cons_succ]
  refine wpAnyH_take (i := 2) (oi := { dst := some 39, op := Op.convert 3 67 (Operand.tmp 38), type := 67, pos := "vcpu.go:163", after := #[{ on := 1, ground := Ground.data }], guard := none }) (v := ?_) rfl (by kernel_rfl) (by kernel_rfl) (by kernel_rfl) (fun _ _ _ h => h) (Or.inl ⟨by rfl, ?_⟩) (by assumption) ?_
  rotate_left
  · (intro w_ hS_; (try dsimp only at hS_); go_simp; try with_reducible rfl)
  try simp only [Act.put, List.setIfInBounds_toArray, List.set_cons_zero, List.set_cons_succ]
  refine wpAnyH_take (i := 4) (oi := { dst := some 8, op := Op.assign (Operand.tmp 39), type := 67, pos := "vcpu.go:163", after := #[{ on := 2, ground := Ground.data }, { on := 1, ground := Ground.chain }, { on := 0, ground := Ground.phase }, { on := 1, ground := Ground.phase }, { on := 2, ground := Ground.phase }, { on := 3, ground := Ground.textOnly Departure.lateStores }], guard := none }) (v := ?_) rfl (by kernel_rfl) (by kernel_rfl) (by kernel_rfl) (fun _ _ _ h => h) (Or.inl ⟨by rfl, ?_⟩) (by assumption) ?_
  rotate_left
  · (intro w_ hS_; (try dsimp only at hS_); go_simp; try with_reducible rfl)
  try simp only [Act.put, List.setIfInBounds_toArray, List.set_cons_zero, List.set_cons_succ]
  refine wpAnyH_ready (rs := [5]) (by kernel_rfl) (by simp) ?_
  refine AllReadyH.cons (o := { dst := none, op := Op.store 57 (Operand.tmp 9) (Operand.tmp 40), type := 0, pos := "vcpu.go:163", after := #[{ on := 3, ground := Ground.data }, { on := 4, ground := Ground.chain }, { on := 0, ground := Ground.phase }, { on := 1, ground := Ground.phase }, { on := 2, ground := Ground.phase }, { on := 3, ground := Ground.phase }, { on := 4, ground := Ground.phase }], guard := none }) rfl (fun K hK => ?_) AllReadyH.nil
  (have hq_ := hHeld; (try dsimp only at hq_))
  obtain ⟨⟨PE_2_2, PE_2_2'⟩, ⟨PN_2_2, PN_2_2'⟩, hF_2_2⟩ := hq_
  go_simp
  refine hK.out _ _ ?_ (fun hHeld => ?_)
  · (refine ⟨⟨by go_simp, by go_simp⟩, ⟨by go_simp, by go_simp⟩, by go_simp⟩)
  clear hK K
  try simp only [Act.put, List.setIfInBounds_toArray, List.set_cons_zero, List.set_cons_succ]
  refine wpAnyH_take (i := 6) (oi := { dst := some 10, op := Op.assign (Operand.const (Value.bool true)), type := 4, pos := "vcpu.go:163", after := #[{ on := 5, ground := Ground.chain }, { on := 0, ground := Ground.phase }, { on := 1, ground := Ground.phase }, { on := 2, ground := Ground.phase }, { on := 3, ground := Ground.phase }, { on := 4, ground := Ground.phase }, { on := 5, ground := Ground.phase }], guard := none }) (v := ?_) rfl (by kernel_rfl) (by kernel_rfl) (by kernel_rfl) (fun _ _ _ h => h) (Or.inl ⟨by rfl, ?_⟩) (by assumption) ?_
  rotate_left
  · (intro w_ hS_; (try dsimp only at hS_); go_simp; try with_reducible rfl)
  try simp only [Act.put, List.setIfInBounds_toArray, List.set_cons_zero, List.set_cons_succ]
  refine wpAnyH_done (by kernel_rfl) ?_ _
  (try dsimp only at hHeld)
  go_split_ands
  go_wp2
  exact bodyPost_ret (resD _ rfl _ _ (x := false) (y := (-1)) (g := w.heap.size) rfl ⟨by go_simp, by go_simp⟩ rfl rfl) rfl ⟨rfl, ⟨by go_simp, by go_simp⟩, ⟨by go_simp, by go_simp⟩, by go_simp⟩
set_option maxRecDepth 100000 in
set_option maxHeartbeats 4000000 in
theorem do_s0 (g bl : Nat) (m p0 p1 : Int) (o0 o1 sp : Bool) (a b : Int) (n : Nat) (C : Array Value) (lost : Int)  (w : World) (hr : isRow w g) (hr' : rowAt w g = #[.int .i64 m, .int .i64 p0, .int .i64 p1, .bool o0, .bool o1, .bool sp, .int .u32 a, .int .u32 b, .slice (some ⟨bl, 0, none⟩) n n, .int .i64 lost]) (hl : isRow w bl) (hl' : rowAt w bl = C) (hne : ¬ g = bl) (hne' : ¬ bl = g) (x y : Int) (hy : bits .and .u64 x 16777215 = y) (y0 : 0 ≤ y) (y1 : y ≤ 16777215) (id cid cpr cgr : Int) (cis : Bool) (HB : Hid (∀ W : World, isRow W g → rowAt W g = #[.int .i64 m, .int .i64 p0, .int .i64 p1, .bool o0, .bool o1, .bool sp, .int .u32 a, .int .u32 b, .slice (some ⟨bl, 0, none⟩) n n, .int .i64 lost] → isRow W bl → rowAt W bl = C → Calls Try.prog 19 #[.pointer (some ⟨g, 0, none⟩)] W fun e w' => e = .returned (.agg #[.int .i64 cid, .int .i64 cpr, .int .i64 cgr, .bool cis]) ∧ Below W.heap.size W w')) (HS : Hid (∀ W : World, Calls Try.prog 53 #[.agg #[.int .i64 m, .int .i64 p0, .int .i64 p1, .bool o0, .bool o1, .bool sp, .int .u32 a, .int .u32 b], .agg #[.int .i64 cid, .int .i64 cpr, .int .i64 cgr, .bool cis], .int .i64 0] W fun e w' => e = .returned (.int .i64 id) ∧ Below W.heap.size W w')) :
    Calls Try.prog 28 #[.pointer (some ⟨g, 0, none⟩), .int .i64 13, .bool false, .int .u64 x] w fun e w' => e = .returned (.tuple #[.int .u64 (IntKind.u64.wrap id), .agg #[.bool false, .int .i64 (-1)], .bool true]) ∧ Row w' g #[.int .i64 m, .int .i64 p0, .int .i64 p1, .bool o0, .bool o1, .bool sp, .int .u32 a, .int .u32 b, .slice (some ⟨bl, 0, none⟩) n n, .int .i64 lost] ∧ Row w' bl C ∧ Aside2 g bl w w' := by
  have _u : True := by have _ := hne; have _ := hne'; have _ := y0; have _ := y1; trivial
  clear _u
  have hX : Aside2 g bl w w := .of_below (Below.refl _ _)
  have lr := hr.lt
  have ll := hl.lt
  have nr : ¬ g = w.heap.size := by omega
  have rn : ¬ w.heap.size = g := by omega
  have nl : ¬ bl = w.heap.size := by omega
  have ln : ¬ w.heap.size = bl := by omega
  have nr1 : ¬ g = w.heap.size + 1 := by omega
  have rn1 : ¬ w.heap.size + 1 = g := by omega
  have nl1 : ¬ bl = w.heap.size + 1 := by omega
  have ln1 : ¬ w.heap.size + 1 = bl := by omega
  have hB_0 : Below w.heap.size w w := Below.refl _ _
  have ne_V_E : ¬ g = w.heap.size := by omega
  have en_V_E : ¬ w.heap.size = g := by omega
  have ne_L_E : ¬ bl = w.heap.size := by omega
  have en_L_E : ¬ w.heap.size = bl := by omega
  have ne_V_N : ¬ g = (w.heap.size + 1) := by omega
  have en_V_N : ¬ (w.heap.size + 1) = g := by omega
  have ne_L_N : ¬ bl = (w.heap.size + 1) := by omega
  have en_L_N : ¬ (w.heap.size + 1) = bl := by omega
  have ne_E_N : ¬ w.heap.size = (w.heap.size + 1) := by omega
  have en_E_N : ¬ (w.heap.size + 1) = w.heap.size := by omega
  go_enter Try.func28, Try.ntmps28
  go_wp2_with fail
  refine wp_named (fun W_ => (isRow W_ g ∧ rowAt W_ g = #[.int .i64 m, .int .i64 p0, .int .i64 p1, .bool o0, .bool o1, .bool sp, .int .u32 a, .int .u32 b, .slice (some ⟨bl, 0, none⟩) n n, .int .i64 lost]) ∧ (isRow W_ bl ∧ rowAt W_ bl = C) ∧ (isRow W_ w.heap.size ∧ rowAt W_ w.heap.size = #[.bool false, .int .i64 0]) ∧ (isRow W_ (w.heap.size + 1) ∧ rowAt W_ (w.heap.size + 1) = #[.bool false, .int .i64 (-1)]) ∧ Aside2 g bl w W_) (by refine ⟨⟨by go_simp, by go_simp⟩, ⟨by go_simp, by go_simp⟩, ⟨by go_simp, by go_simp⟩, ⟨by go_simp, by go_simp⟩, by go_simp⟩) ?_
  rintro v1 ⟨⟨V_1, V_1'⟩, ⟨L_1, L_1'⟩, ⟨E_1, E_1'⟩, ⟨N_1, N_1'⟩, hB_1⟩
  clear hr hr' hl hl' hX
  have hz_1 : w.heap.size ≤ v1.heap.size := hB_1.size
  have hl_V_1 := isRow.lt V_1
  have hl_L_1 := isRow.lt L_1
  have hl_E_1 := isRow.lt E_1
  have hl_N_1 := isRow.lt N_1
  refine wp_region_held_drew (S := fun w' => (isRow w' g ∧ rowAt w' g = #[.int .i64 m, .int .i64 p0, .int .i64 p1, .bool o0, .bool o1, .bool sp, .int .u32 a, .int .u32 b, .slice (some ⟨bl, 0, none⟩) n n, .int .i64 lost]) ∧ (isRow w' bl ∧ rowAt w' bl = C) ∧ (isRow w' w.heap.size ∧ (rowAt w' w.heap.size).size = 2) ∧ (isRow w' (w.heap.size + 1) ∧ rowAt w' (w.heap.size + 1) = #[.bool false, .int .i64 (-1)]) ∧ Aside2 g bl w w') (by kernel_rfl) ⟨⟨by go_simp, by go_simp⟩, ⟨by go_simp, by go_simp⟩, ⟨by go_simp, by go_simp⟩, ⟨by go_simp, by go_simp⟩, by go_simp⟩ (fun hHeld => ?_)
  refine wpAnyH_take (i := 0) (oi := { dst := some 48, op := Op.move (Operand.tmp 0), type := 24, pos := "vcpu.go:165", after := #[], guard := none }) (v := ?_) rfl (by kernel_rfl) (by kernel_rfl) (by kernel_rfl) (fun _ _ _ h => h) (Or.inl ⟨by rfl, ?_⟩) (by assumption) ?_
  rotate_left
  · (intro w_ hS_; (try dsimp only at hS_); go_simp; try with_reducible rfl)
  try simp only [Act.put, List.setIfInBounds_toArray, List.set_cons_zero, List.set_cons_succ]
  refine wpAnyH_take (i := 1) (oi := { dst := some 49, op := Op.nilCheck (Operand.tmp 48), type := 0, pos := "vcpu.go:165", after := #[{ on := 0, ground := Ground.data }], guard := none }) (v := ?_) rfl (by kernel_rfl) (by kernel_rfl) (by kernel_rfl) (fun _ _ _ h => h) (Or.inl ⟨by rfl, ?_⟩) (by assumption) ?_
  rotate_left
  · (intro w_ hS_; (try dsimp only at hS_); go_simp; try with_reducible rfl)
  try simp only [Act.put, List.setIfInBounds_toArray, List.set_cons_zero, List.set_cons_succ]
  refine wpAnyH_take (i := 2) (oi := { dst := some 50, op := Op.fieldAddr 37 (Operand.tmp 49) 0, type := 0, pos := "vcpu.go:165", after := #[{ on := 1, ground := Ground.data }], guard := none }) (v := ?_) rfl (by kernel_rfl) (by kernel_rfl) (by kernel_rfl) (fun _ _ _ h => h) (Or.inl ⟨by rfl, ?_⟩) (by assumption) ?_
  rotate_left
  · (intro w_ hS_; (try dsimp only at hS_); go_simp; try with_reducible rfl)
  try simp only [Act.put, List.setIfInBounds_toArray, List.set_cons_zero, List.set_cons_succ]
  refine wpAnyH_take (i := 3) (oi := { dst := some 51, op := Op.load 35 (Operand.tmp 50), type := 35, pos := "vcpu.go:165", after := #[{ on := 2, ground := Ground.data }], guard := none }) (v := ?_) rfl (by kernel_rfl) (by kernel_rfl) (by kernel_rfl) (fun _ _ _ h => h) (Or.inl ⟨by rfl, ?_⟩) (by assumption) ?_
  rotate_left
  · (intro w_ hS_; (try dsimp only at hS_); go_simp; try with_reducible rfl)
  try simp only [Act.put, List.setIfInBounds_toArray, List.set_cons_zero, List.set_cons_succ]
  refine wpAnyH_take (i := 4) (oi := { dst := some 52, op := Op.move (Operand.tmp 0), type := 24, pos := "vcpu.go:165", after := #[], guard := none }) (v := ?_) rfl (by kernel_rfl) (by kernel_rfl) (by kernel_rfl) (fun _ _ _ h => h) (Or.inl ⟨by rfl, ?_⟩) (by assumption) ?_
  rotate_left
  · (intro w_ hS_; (try dsimp only at hS_); go_simp; try with_reducible rfl)
  try simp only [Act.put, List.setIfInBounds_toArray, List.set_cons_zero, List.set_cons_succ]
  refine wpAnyH_take (i := 8) (oi := { dst := some 56, op := Op.load 57 (Operand.tmp 11), type := 57, pos := "vcpu.go:165", after := #[{ on := 9, ground := Ground.gcOnly Departure.lateStores }], guard := none }) (v := ?_) rfl (by kernel_rfl) (by kernel_rfl) (by kernel_rfl) (fun _ _ _ h => h) (Or.inl ⟨by rfl, ?_⟩) (by assumption) ?_
  rotate_left
  · (intro w_ hS_; (try dsimp only at hS_); go_simp; try with_reducible rfl)
  try simp only [Act.put, List.setIfInBounds_toArray, List.set_cons_zero, List.set_cons_succ]
  refine wpAnyH_ready (rs := [5]) (by kernel_rfl) (by simp) ?_
  refine AllReadyH.cons (o := { dst := some 53, op := Op.call { callee := Callee.value (Operand.func 19), args := #[Operand.tmp 52], argTypes := #[24] }, type := 47, pos := "vcpu.go:165", after := #[{ on := 4, ground := Ground.data }], guard := none }) rfl (fun K hK => ?_) AllReadyH.nil
  (have hq_ := hHeld; (try dsimp only at hq_))
  obtain ⟨⟨PV_2_1, PV_2_1'⟩, ⟨PL_2_1, PL_2_1'⟩, ⟨PE_2_1, PE_2_1'⟩, ⟨PN_2_1, PN_2_1'⟩, hF_2_1⟩ := hq_
  go_simp
  refine (HB.out _ (by go_simp) (by go_simp) (by go_simp) (by go_simp)).mono ?_
  rintro e u2_1 ⟨rfl, hb⟩
  refine hK.out _ _ ?_ (fun hHeld => ?_)
  · exact ⟨⟨rk1 PV_2_1 hb, rk2 PV_2_1 PV_2_1' hb⟩, ⟨rk1 PL_2_1 hb, rk2 PL_2_1 PL_2_1' hb⟩, ⟨rk1 PE_2_1 hb, by rw [rk3 PE_2_1 hb]; exact PE_2_1'⟩, ⟨rk1 PN_2_1 hb, rk2 PN_2_1 PN_2_1' hb⟩, Aside2.low hF_2_1 hb⟩
  clear hK K
  try simp only [Act.put, List.setIfInBounds_toArray, List.set_cons_zero, List.set_cons_succ]
  refine wpAnyH_ready (rs := [6]) (by kernel_rfl) (by simp) ?_
  refine AllReadyH.cons (o := { dst := some 54, op := Op.call { callee := Callee.value (Operand.func 53), args := #[Operand.tmp 51, Operand.tmp 53, Operand.const (Value.int IntKind.i64 0)], argTypes := #[35, 47, 3] }, type := 3, pos := "vcpu.go:165", after := #[{ on := 3, ground := Ground.data }, { on := 5, ground := Ground.data }, { on := 5, ground := Ground.chain }], guard := none }) rfl (fun K hK => ?_) AllReadyH.nil
  (have hq_ := hHeld; (try dsimp only at hq_))
  obtain ⟨⟨PV_2_2, PV_2_2'⟩, ⟨PL_2_2, PL_2_2'⟩, ⟨PE_2_2, PE_2_2'⟩, ⟨PN_2_2, PN_2_2'⟩, hF_2_2⟩ := hq_
  go_simp
  refine (HS.out _).mono ?_
  rintro e u2_2 ⟨rfl, hb⟩
  refine hK.out _ _ ?_ (fun hHeld => ?_)
  · exact ⟨⟨rk1 PV_2_2 hb, rk2 PV_2_2 PV_2_2' hb⟩, ⟨rk1 PL_2_2 hb, rk2 PL_2_2 PL_2_2' hb⟩, ⟨rk1 PE_2_2 hb, by rw [rk3 PE_2_2 hb]; exact PE_2_2'⟩, ⟨rk1 PN_2_2 hb, rk2 PN_2_2 PN_2_2' hb⟩, Aside2.low hF_2_2 hb⟩
  clear hK K
  try simp only [Act.put, List.setIfInBounds_toArray, List.set_cons_zero, List.set_cons_succ]
  refine wpAnyH_take (i := 7) (oi := { dst := some 55, op := Op.convert 3 67 (Operand.tmp 54), type := 67, pos := "vcpu.go:165", after := #[{ on := 6, ground := Ground.data }], guard := none }) (v := ?_) rfl (by kernel_rfl) (by kernel_rfl) (by kernel_rfl) (fun _ _ _ h => h) (Or.inl ⟨by rfl, ?_⟩) (by assumption) ?_
  rotate_left
  · (intro w_ hS_; (try dsimp only at hS_); go_simp; try with_reducible rfl)
  try simp only [Act.put, List.setIfInBounds_toArray, List.set_cons_zero, List.set_cons_succ]
  refine wpAnyH_take (i := 9) (oi := { dst := some 8, op := Op.assign (Operand.tmp 55), type := 67, pos := "vcpu.go:165", after := #[{ on := 7, ground := Ground.data }, { on := 6, ground := Ground.chain }, { on := 0, ground := Ground.phase }, { on := 1, ground := Ground.phase }, { on := 2, ground := Ground.phase }, { on := 3, ground := Ground.phase }, { on := 4, ground := Ground.phase }, { on := 5, ground := Ground.phase }, { on := 6, ground := Ground.phase }, { on := 7, ground := Ground.phase }, { on := 8, ground := Ground.textOnly Departure.lateStores }], guard := none }) (v := ?_) rfl (by kernel_rfl) (by kernel_rfl) (by kernel_rfl) (fun _ _ _ h => h) (Or.inl ⟨by rfl, ?_⟩) (by assumption) ?_
  rotate_left
  · (intro w_ hS_; (try dsimp only at hS_); go_simp; try with_reducible rfl)
  try simp only [Act.put, List.setIfInBounds_toArray, List.set_cons_zero, List.set_cons_succ]
  refine wpAnyH_ready (rs := [10]) (by kernel_rfl) (by simp) ?_
  refine AllReadyH.cons (o := { dst := none, op := Op.store 57 (Operand.tmp 9) (Operand.tmp 56), type := 0, pos := "vcpu.go:165", after := #[{ on := 8, ground := Ground.data }, { on := 9, ground := Ground.chain }, { on := 0, ground := Ground.phase }, { on := 1, ground := Ground.phase }, { on := 2, ground := Ground.phase }, { on := 3, ground := Ground.phase }, { on := 4, ground := Ground.phase }, { on := 5, ground := Ground.phase }, { on := 6, ground := Ground.phase }, { on := 7, ground := Ground.phase }, { on := 8, ground := Ground.phase }, { on := 9, ground := Ground.phase }], guard := none }) rfl (fun K hK => ?_) AllReadyH.nil
  (have hq_ := hHeld; (try dsimp only at hq_))
  obtain ⟨⟨PV_2_3, PV_2_3'⟩, ⟨PL_2_3, PL_2_3'⟩, ⟨PE_2_3, PE_2_3'⟩, ⟨PN_2_3, PN_2_3'⟩, hF_2_3⟩ := hq_
  go_simp
  refine hK.out _ _ ?_ (fun hHeld => ?_)
  · (refine ⟨⟨by go_simp, by go_simp⟩, ⟨by go_simp, by go_simp⟩, ⟨by go_simp, by go_simp⟩, ⟨by go_simp, by go_simp⟩, by go_simp⟩)
  clear hK K
  try simp only [Act.put, List.setIfInBounds_toArray, List.set_cons_zero, List.set_cons_succ]
  refine wpAnyH_take (i := 11) (oi := { dst := some 10, op := Op.assign (Operand.const (Value.bool true)), type := 4, pos := "vcpu.go:165", after := #[{ on := 10, ground := Ground.chain }, { on := 0, ground := Ground.phase }, { on := 1, ground := Ground.phase }, { on := 2, ground := Ground.phase }, { on := 3, ground := Ground.phase }, { on := 4, ground := Ground.phase }, { on := 5, ground := Ground.phase }, { on := 6, ground := Ground.phase }, { on := 7, ground := Ground.phase }, { on := 8, ground := Ground.phase }, { on := 9, ground := Ground.phase }, { on := 10, ground := Ground.phase }], guard := none }) (v := ?_) rfl (by kernel_rfl) (by kernel_rfl) (by kernel_rfl) (fun _ _ _ h => h) (Or.inl ⟨by rfl, ?_⟩) (by assumption) ?_
  rotate_left
  · (intro w_ hS_; (try dsimp only at hS_); go_simp; try with_reducible rfl)
  try simp only [Act.put, List.setIfInBounds_toArray, List.set_cons_zero, List.set_cons_succ]
  refine wpAnyH_done (by kernel_rfl) ?_ _
  (try dsimp only at hHeld)
  go_split_ands
  go_wp2
  exact bodyPost_ret (resD _ rfl _ _ (x := false) (y := (-1)) (g := w.heap.size) rfl ⟨by go_simp, by go_simp⟩ rfl rfl) rfl ⟨rfl, ⟨by go_simp, by go_simp⟩, ⟨by go_simp, by go_simp⟩, by go_simp⟩
set_option maxRecDepth 100000 in
set_option maxHeartbeats 4000000 in
theorem do_s1 (g bl : Nat) (m p0 p1 : Int) (o0 o1 sp : Bool) (a b : Int) (n : Nat) (C : Array Value) (lost : Int)  (w : World) (hr : isRow w g) (hr' : rowAt w g = #[.int .i64 m, .int .i64 p0, .int .i64 p1, .bool o0, .bool o1, .bool sp, .int .u32 a, .int .u32 b, .slice (some ⟨bl, 0, none⟩) n n, .int .i64 lost]) (hl : isRow w bl) (hl' : rowAt w bl = C) (hne : ¬ g = bl) (hne' : ¬ bl = g) (x y : Int) (hy : bits .and .u64 x 16777215 = y) (y0 : 0 ≤ y) (y1 : y ≤ 16777215) (id cid cpr cgr : Int) (cis : Bool) (HB : Hid (∀ W : World, isRow W g → rowAt W g = #[.int .i64 m, .int .i64 p0, .int .i64 p1, .bool o0, .bool o1, .bool sp, .int .u32 a, .int .u32 b, .slice (some ⟨bl, 0, none⟩) n n, .int .i64 lost] → isRow W bl → rowAt W bl = C → Calls Try.prog 19 #[.pointer (some ⟨g, 0, none⟩)] W fun e w' => e = .returned (.agg #[.int .i64 cid, .int .i64 cpr, .int .i64 cgr, .bool cis]) ∧ Below W.heap.size W w')) (HS : Hid (∀ W : World, Calls Try.prog 53 #[.agg #[.int .i64 m, .int .i64 p0, .int .i64 p1, .bool o0, .bool o1, .bool sp, .int .u32 a, .int .u32 b], .agg #[.int .i64 cid, .int .i64 cpr, .int .i64 cgr, .bool cis], .int .i64 1] W fun e w' => e = .returned (.int .i64 id) ∧ Below W.heap.size W w')) :
    Calls Try.prog 28 #[.pointer (some ⟨g, 0, none⟩), .int .i64 14, .bool false, .int .u64 x] w fun e w' => e = .returned (.tuple #[.int .u64 (IntKind.u64.wrap id), .agg #[.bool false, .int .i64 (-1)], .bool true]) ∧ Row w' g #[.int .i64 m, .int .i64 p0, .int .i64 p1, .bool o0, .bool o1, .bool sp, .int .u32 a, .int .u32 b, .slice (some ⟨bl, 0, none⟩) n n, .int .i64 lost] ∧ Row w' bl C ∧ Aside2 g bl w w' := by
  have _u : True := by have _ := hne; have _ := hne'; have _ := y0; have _ := y1; trivial
  clear _u
  have hX : Aside2 g bl w w := .of_below (Below.refl _ _)
  have lr := hr.lt
  have ll := hl.lt
  have nr : ¬ g = w.heap.size := by omega
  have rn : ¬ w.heap.size = g := by omega
  have nl : ¬ bl = w.heap.size := by omega
  have ln : ¬ w.heap.size = bl := by omega
  have nr1 : ¬ g = w.heap.size + 1 := by omega
  have rn1 : ¬ w.heap.size + 1 = g := by omega
  have nl1 : ¬ bl = w.heap.size + 1 := by omega
  have ln1 : ¬ w.heap.size + 1 = bl := by omega
  have hB_0 : Below w.heap.size w w := Below.refl _ _
  have ne_V_E : ¬ g = w.heap.size := by omega
  have en_V_E : ¬ w.heap.size = g := by omega
  have ne_L_E : ¬ bl = w.heap.size := by omega
  have en_L_E : ¬ w.heap.size = bl := by omega
  have ne_V_N : ¬ g = (w.heap.size + 1) := by omega
  have en_V_N : ¬ (w.heap.size + 1) = g := by omega
  have ne_L_N : ¬ bl = (w.heap.size + 1) := by omega
  have en_L_N : ¬ (w.heap.size + 1) = bl := by omega
  have ne_E_N : ¬ w.heap.size = (w.heap.size + 1) := by omega
  have en_E_N : ¬ (w.heap.size + 1) = w.heap.size := by omega
  go_enter Try.func28, Try.ntmps28
  go_wp2_with fail
  refine wp_named (fun W_ => (isRow W_ g ∧ rowAt W_ g = #[.int .i64 m, .int .i64 p0, .int .i64 p1, .bool o0, .bool o1, .bool sp, .int .u32 a, .int .u32 b, .slice (some ⟨bl, 0, none⟩) n n, .int .i64 lost]) ∧ (isRow W_ bl ∧ rowAt W_ bl = C) ∧ (isRow W_ w.heap.size ∧ rowAt W_ w.heap.size = #[.bool false, .int .i64 0]) ∧ (isRow W_ (w.heap.size + 1) ∧ rowAt W_ (w.heap.size + 1) = #[.bool false, .int .i64 (-1)]) ∧ Aside2 g bl w W_) (by refine ⟨⟨by go_simp, by go_simp⟩, ⟨by go_simp, by go_simp⟩, ⟨by go_simp, by go_simp⟩, ⟨by go_simp, by go_simp⟩, by go_simp⟩) ?_
  rintro v1 ⟨⟨V_1, V_1'⟩, ⟨L_1, L_1'⟩, ⟨E_1, E_1'⟩, ⟨N_1, N_1'⟩, hB_1⟩
  clear hr hr' hl hl' hX
  have hz_1 : w.heap.size ≤ v1.heap.size := hB_1.size
  have hl_V_1 := isRow.lt V_1
  have hl_L_1 := isRow.lt L_1
  have hl_E_1 := isRow.lt E_1
  have hl_N_1 := isRow.lt N_1
  refine wp_region_held_drew (S := fun w' => (isRow w' g ∧ rowAt w' g = #[.int .i64 m, .int .i64 p0, .int .i64 p1, .bool o0, .bool o1, .bool sp, .int .u32 a, .int .u32 b, .slice (some ⟨bl, 0, none⟩) n n, .int .i64 lost]) ∧ (isRow w' bl ∧ rowAt w' bl = C) ∧ (isRow w' w.heap.size ∧ (rowAt w' w.heap.size).size = 2) ∧ (isRow w' (w.heap.size + 1) ∧ rowAt w' (w.heap.size + 1) = #[.bool false, .int .i64 (-1)]) ∧ Aside2 g bl w w') (by kernel_rfl) ⟨⟨by go_simp, by go_simp⟩, ⟨by go_simp, by go_simp⟩, ⟨by go_simp, by go_simp⟩, ⟨by go_simp, by go_simp⟩, by go_simp⟩ (fun hHeld => ?_)
  refine wpAnyH_take (i := 0) (oi := { dst := some 64, op := Op.move (Operand.tmp 0), type := 24, pos := "vcpu.go:167", after := #[], guard := none }) (v := ?_) rfl (by kernel_rfl) (by kernel_rfl) (by kernel_rfl) (fun _ _ _ h => h) (Or.inl ⟨by rfl, ?_⟩) (by assumption) ?_
  rotate_left
  · (intro w_ hS_; (try dsimp only at hS_); go_simp; try with_reducible rfl)
  try simp only [Act.put, List.setIfInBounds_toArray, List.set_cons_zero, List.set_cons_succ]
  refine wpAnyH_take (i := 1) (oi := { dst := some 65, op := Op.nilCheck (Operand.tmp 64), type := 0, pos := "vcpu.go:167", after := #[{ on := 0, ground := Ground.data }], guard := none }) (v := ?_) rfl (by kernel_rfl) (by kernel_rfl) (by kernel_rfl) (fun _ _ _ h => h) (Or.inl ⟨by rfl, ?_⟩) (by assumption) ?_
  rotate_left
  · (intro w_ hS_; (try dsimp only at hS_); go_simp; try with_reducible rfl)
  try simp only [Act.put, List.setIfInBounds_toArray, List.set_cons_zero, List.set_cons_succ]
  refine wpAnyH_take (i := 2) (oi := { dst := some 66, op := Op.fieldAddr 37 (Operand.tmp 65) 0, type := 0, pos := "vcpu.go:167", after := #[{ on := 1, ground := Ground.data }], guard := none }) (v := ?_) rfl (by kernel_rfl) (by kernel_rfl) (by kernel_rfl) (fun _ _ _ h => h) (Or.inl ⟨by rfl, ?_⟩) (by assumption) ?_
  rotate_left
  · (intro w_ hS_; (try dsimp only at hS_); go_simp; try with_reducible rfl)
  try simp only [Act.put, List.setIfInBounds_toArray, List.set_cons_zero, List.set_cons_succ]
  refine wpAnyH_take (i := 3) (oi := { dst := some 67, op := Op.load 35 (Operand.tmp 66), type := 35, pos := "vcpu.go:167", after := #[{ on := 2, ground := Ground.data }], guard := none }) (v := ?_) rfl (by kernel_rfl) (by kernel_rfl) (by kernel_rfl) (fun _ _ _ h => h) (Or.inl ⟨by rfl, ?_⟩) (by assumption) ?_
  rotate_left
  · (intro w_ hS_; (try dsimp only at hS_); go_simp; try with_reducible rfl)
  try simp only [Act.put, List.setIfInBounds_toArray, List.set_cons_zero, List.set_cons_succ]
  refine wpAnyH_take (i := 4) (oi := { dst := some 68, op := Op.move (Operand.tmp 0), type := 24, pos := "vcpu.go:167", after := #[], guard := none }) (v := ?_) rfl (by kernel_rfl) (by kernel_rfl) (by kernel_rfl) (fun _ _ _ h => h) (Or.inl ⟨by rfl, ?_⟩) (by assumption) ?_
  rotate_left
  · (intro w_ hS_; (try dsimp only at hS_); go_simp; try with_reducible rfl)
  try simp only [Act.put, List.setIfInBounds_toArray, List.set_cons_zero, List.set_cons_succ]
  refine wpAnyH_take (i := 8) (oi := { dst := some 72, op := Op.load 57 (Operand.tmp 11), type := 57, pos := "vcpu.go:167", after := #[{ on := 9, ground := Ground.gcOnly Departure.lateStores }], guard := none }) (v := ?_) rfl (by kernel_rfl) (by kernel_rfl) (by kernel_rfl) (fun _ _ _ h => h) (Or.inl ⟨by rfl, ?_⟩) (by assumption) ?_
  rotate_left
  · (intro w_ hS_; (try dsimp only at hS_); go_simp; try with_reducible rfl)
  try simp only [Act.put, List.setIfInBounds_toArray, List.set_cons_zero, List.set_cons_succ]
  refine wpAnyH_ready (rs := [5]) (by kernel_rfl) (by simp) ?_
  refine AllReadyH.cons (o := { dst := some 69, op := Op.call { callee := Callee.value (Operand.func 19), args := #[Operand.tmp 68], argTypes := #[24] }, type := 47, pos := "vcpu.go:167", after := #[{ on := 4, ground := Ground.data }], guard := none }) rfl (fun K hK => ?_) AllReadyH.nil
  (have hq_ := hHeld; (try dsimp only at hq_))
  obtain ⟨⟨PV_2_1, PV_2_1'⟩, ⟨PL_2_1, PL_2_1'⟩, ⟨PE_2_1, PE_2_1'⟩, ⟨PN_2_1, PN_2_1'⟩, hF_2_1⟩ := hq_
  go_simp
  refine (HB.out _ (by go_simp) (by go_simp) (by go_simp) (by go_simp)).mono ?_
  rintro e u2_1 ⟨rfl, hb⟩
  refine hK.out _ _ ?_ (fun hHeld => ?_)
  · exact ⟨⟨rk1 PV_2_1 hb, rk2 PV_2_1 PV_2_1' hb⟩, ⟨rk1 PL_2_1 hb, rk2 PL_2_1 PL_2_1' hb⟩, ⟨rk1 PE_2_1 hb, by rw [rk3 PE_2_1 hb]; exact PE_2_1'⟩, ⟨rk1 PN_2_1 hb, rk2 PN_2_1 PN_2_1' hb⟩, Aside2.low hF_2_1 hb⟩
  clear hK K
  try simp only [Act.put, List.setIfInBounds_toArray, List.set_cons_zero, List.set_cons_succ]
  refine wpAnyH_ready (rs := [6]) (by kernel_rfl) (by simp) ?_
  refine AllReadyH.cons (o := { dst := some 70, op := Op.call { callee := Callee.value (Operand.func 53), args := #[Operand.tmp 67, Operand.tmp 69, Operand.const (Value.int IntKind.i64 1)], argTypes := #[35, 47, 3] }, type := 3, pos := "vcpu.go:167", after := #[{ on := 3, ground := Ground.data }, { on := 5, ground := Ground.data }, { on := 5, ground := Ground.chain }], guard := none }) rfl (fun K hK => ?_) AllReadyH.nil
  (have hq_ := hHeld; (try dsimp only at hq_))
  obtain ⟨⟨PV_2_2, PV_2_2'⟩, ⟨PL_2_2, PL_2_2'⟩, ⟨PE_2_2, PE_2_2'⟩, ⟨PN_2_2, PN_2_2'⟩, hF_2_2⟩ := hq_
  go_simp
  refine (HS.out _).mono ?_
  rintro e u2_2 ⟨rfl, hb⟩
  refine hK.out _ _ ?_ (fun hHeld => ?_)
  · exact ⟨⟨rk1 PV_2_2 hb, rk2 PV_2_2 PV_2_2' hb⟩, ⟨rk1 PL_2_2 hb, rk2 PL_2_2 PL_2_2' hb⟩, ⟨rk1 PE_2_2 hb, by rw [rk3 PE_2_2 hb]; exact PE_2_2'⟩, ⟨rk1 PN_2_2 hb, rk2 PN_2_2 PN_2_2' hb⟩, Aside2.low hF_2_2 hb⟩
  clear hK K
  try simp only [Act.put, List.setIfInBounds_toArray, List.set_cons_zero, List.set_cons_succ]
  refine wpAnyH_take (i := 7) (oi := { dst := some 71, op := Op.convert 3 67 (Operand.tmp 70), type := 67, pos := "vcpu.go:167", after := #[{ on := 6, ground := Ground.data }], guard := none }) (v := ?_) rfl (by kernel_rfl) (by kernel_rfl) (by kernel_rfl) (fun _ _ _ h => h) (Or.inl ⟨by rfl, ?_⟩) (by assumption) ?_
  rotate_left
  · (intro w_ hS_; (try dsimp only at hS_); go_simp; try with_reducible rfl)
  try simp only [Act.put, List.setIfInBounds_toArray, List.set_cons_zero, List.set_cons_succ]
  refine wpAnyH_take (i := 9) (oi := { dst := some 8, op := Op.assign (Operand.tmp 71), type := 67, pos := "vcpu.go:167", after := #[{ on := 7, ground := Ground.data }, { on := 6, ground := Ground.chain }, { on := 0, ground := Ground.phase }, { on := 1, ground := Ground.phase }, { on := 2, ground := Ground.phase }, { on := 3, ground := Ground.phase }, { on := 4, ground := Ground.phase }, { on := 5, ground := Ground.phase }, { on := 6, ground := Ground.phase }, { on := 7, ground := Ground.phase }, { on := 8, ground := Ground.textOnly Departure.lateStores }], guard := none }) (v := ?_) rfl (by kernel_rfl) (by kernel_rfl) (by kernel_rfl) (fun _ _ _ h => h) (Or.inl ⟨by rfl, ?_⟩) (by assumption) ?_
  rotate_left
  · (intro w_ hS_; (try dsimp only at hS_); go_simp; try with_reducible rfl)
  try simp only [Act.put, List.setIfInBounds_toArray, List.set_cons_zero, List.set_cons_succ]
  refine wpAnyH_ready (rs := [10]) (by kernel_rfl) (by simp) ?_
  refine AllReadyH.cons (o := { dst := none, op := Op.store 57 (Operand.tmp 9) (Operand.tmp 72), type := 0, pos := "vcpu.go:167", after := #[{ on := 8, ground := Ground.data }, { on := 9, ground := Ground.chain }, { on := 0, ground := Ground.phase }, { on := 1, ground := Ground.phase }, { on := 2, ground := Ground.phase }, { on := 3, ground := Ground.phase }, { on := 4, ground := Ground.phase }, { on := 5, ground := Ground.phase }, { on := 6, ground := Ground.phase }, { on := 7, ground := Ground.phase }, { on := 8, ground := Ground.phase }, { on := 9, ground := Ground.phase }], guard := none }) rfl (fun K hK => ?_) AllReadyH.nil
  (have hq_ := hHeld; (try dsimp only at hq_))
  obtain ⟨⟨PV_2_3, PV_2_3'⟩, ⟨PL_2_3, PL_2_3'⟩, ⟨PE_2_3, PE_2_3'⟩, ⟨PN_2_3, PN_2_3'⟩, hF_2_3⟩ := hq_
  go_simp
  refine hK.out _ _ ?_ (fun hHeld => ?_)
  · (refine ⟨⟨by go_simp, by go_simp⟩, ⟨by go_simp, by go_simp⟩, ⟨by go_simp, by go_simp⟩, ⟨by go_simp, by go_simp⟩, by go_simp⟩)
  clear hK K
  try simp only [Act.put, List.setIfInBounds_toArray, List.set_cons_zero, List.set_cons_succ]
  refine wpAnyH_take (i := 11) (oi := { dst := some 10, op := Op.assign (Operand.const (Value.bool true)), type := 4, pos := "vcpu.go:167", after := #[{ on := 10, ground := Ground.chain }, { on := 0, ground := Ground.phase }, { on := 1, ground := Ground.phase }, { on := 2, ground := Ground.phase }, { on := 3, ground := Ground.phase }, { on := 4, ground := Ground.phase }, { on := 5, ground := Ground.phase }, { on := 6, ground := Ground.phase }, { on := 7, ground := Ground.phase }, { on := 8, ground := Ground.phase }, { on := 9, ground := Ground.phase }, { on := 10, ground := Ground.phase }], guard := none }) (v := ?_) rfl (by kernel_rfl) (by kernel_rfl) (by kernel_rfl) (fun _ _ _ h => h) (Or.inl ⟨by rfl, ?_⟩) (by assumption) ?_
  rotate_left
  · (intro w_ hS_; (try dsimp only at hS_); go_simp; try with_reducible rfl)
  try simp only [Act.put, List.setIfInBounds_toArray, List.set_cons_zero, List.set_cons_succ]
  refine wpAnyH_done (by kernel_rfl) ?_ _
  (try dsimp only at hHeld)
  go_split_ands
  go_wp2
  exact bodyPost_ret (resD _ rfl _ _ (x := false) (y := (-1)) (g := w.heap.size) rfl ⟨by go_simp, by go_simp⟩ rfl rfl) rfl ⟨rfl, ⟨by go_simp, by go_simp⟩, ⟨by go_simp, by go_simp⟩, by go_simp⟩
set_option maxRecDepth 100000 in
set_option maxHeartbeats 4000000 in
theorem do_e0 (g bl : Nat) (m p0 p1 : Int) (o0 o1 sp : Bool) (a b : Int) (n : Nat) (C : Array Value) (lost : Int) (m' p0' p1' : Int) (o0' o1' sp' : Bool) (a' b' : Int) (C' : Array Value) (lost' : Int) (w : World) (hr : isRow w g) (hr' : rowAt w g = #[.int .i64 m, .int .i64 p0, .int .i64 p1, .bool o0, .bool o1, .bool sp, .int .u32 a, .int .u32 b, .slice (some ⟨bl, 0, none⟩) n n, .int .i64 lost]) (hl : isRow w bl) (hl' : rowAt w bl = C) (hne : ¬ g = bl) (hne' : ¬ bl = g) (x y : Int) (hy : bits .and .u64 x 16777215 = y) (y0 : 0 ≤ y) (y1 : y ≤ 16777215) (ok : Bool) (mm : Int) (HE : Hid (∀ W : World, isRow W g → rowAt W g = #[.int .i64 m, .int .i64 p0, .int .i64 p1, .bool o0, .bool o1, .bool sp, .int .u32 a, .int .u32 b, .slice (some ⟨bl, 0, none⟩) n n, .int .i64 lost] → isRow W bl → rowAt W bl = C → Calls Try.prog 23 #[.pointer (some ⟨g, 0, none⟩), .int .i64 0, .int .i64 y] W fun e w' => e = .returned (.agg #[.bool ok, .int .i64 mm]) ∧ Row w' g #[.int .i64 m', .int .i64 p0', .int .i64 p1', .bool o0', .bool o1', .bool sp', .int .u32 a', .int .u32 b', .slice (some ⟨bl, 0, none⟩) n n, .int .i64 lost'] ∧ Row w' bl C' ∧ Aside2 g bl W w')) :
    Calls Try.prog 28 #[.pointer (some ⟨g, 0, none⟩), .int .i64 3, .bool true, .int .u64 x] w fun e w' => e = .returned (.tuple #[.int .u64 0, .agg #[.bool ok, .int .i64 mm], .bool true]) ∧ Row w' g #[.int .i64 m', .int .i64 p0', .int .i64 p1', .bool o0', .bool o1', .bool sp', .int .u32 a', .int .u32 b', .slice (some ⟨bl, 0, none⟩) n n, .int .i64 lost'] ∧ Row w' bl C' ∧ Aside2 g bl w w' := by
  have _u : True := by have _ := hne; have _ := hne'; have _ := y0; have _ := y1; trivial
  clear _u
  have hX : Aside2 g bl w w := .of_below (Below.refl _ _)
  have lr := hr.lt
  have ll := hl.lt
  have nr : ¬ g = w.heap.size := by omega
  have rn : ¬ w.heap.size = g := by omega
  have nl : ¬ bl = w.heap.size := by omega
  have ln : ¬ w.heap.size = bl := by omega
  have nr1 : ¬ g = w.heap.size + 1 := by omega
  have rn1 : ¬ w.heap.size + 1 = g := by omega
  have nl1 : ¬ bl = w.heap.size + 1 := by omega
  have ln1 : ¬ w.heap.size + 1 = bl := by omega
  have hB_0 : Below w.heap.size w w := Below.refl _ _
  have ne_V_E : ¬ g = w.heap.size := by omega
  have en_V_E : ¬ w.heap.size = g := by omega
  have ne_L_E : ¬ bl = w.heap.size := by omega
  have en_L_E : ¬ w.heap.size = bl := by omega
  have ne_V_N : ¬ g = (w.heap.size + 1) := by omega
  have en_V_N : ¬ (w.heap.size + 1) = g := by omega
  have ne_L_N : ¬ bl = (w.heap.size + 1) := by omega
  have en_L_N : ¬ (w.heap.size + 1) = bl := by omega
  have ne_E_N : ¬ w.heap.size = (w.heap.size + 1) := by omega
  have en_E_N : ¬ (w.heap.size + 1) = w.heap.size := by omega
  go_enter Try.func28, Try.ntmps28
  go_wp2_with fail
  refine (HE.out _ (by go_simp) (by go_simp) (by go_simp) (by go_simp)).mono ?_
  rintro e v1 ⟨rfl, ⟨V_1, V_1'⟩, ⟨L_1, L_1'⟩, hA1⟩
  obtain ⟨E_1, E_1'⟩ : Row v1 w.heap.size #[.bool false, .int .i64 0] := hA1.row ⟨by go_simp, by go_simp⟩ (by omega) (by omega)
  obtain ⟨N_1, N_1'⟩ : Row v1 (w.heap.size + 1) #[.bool false, .int .i64 (-1)] := hA1.row ⟨by go_simp, by go_simp⟩ (by omega) (by omega)
  have hB_1 : Aside2 g bl w v1 := Aside2.trans (by go_simp) hA1
  clear hr hr' hl hl' hX hA1
  have hz_1 : w.heap.size ≤ v1.heap.size := hB_1.size
  have hl_V_1 := isRow.lt V_1
  have hl_L_1 := isRow.lt L_1
  have hl_E_1 := isRow.lt E_1
  have hl_N_1 := isRow.lt N_1
  go_wp2
  exact bodyPost_ret (resD _ rfl _ _ (x := ok) (y := mm) (g := w.heap.size) rfl ⟨by go_simp, by go_simp⟩ rfl rfl) rfl ⟨rfl, ⟨by go_simp, by go_simp⟩, ⟨by go_simp, by go_simp⟩, by go_simp⟩
set_option maxRecDepth 100000 in
set_option maxHeartbeats 4000000 in
theorem do_e1 (g bl : Nat) (m p0 p1 : Int) (o0 o1 sp : Bool) (a b : Int) (n : Nat) (C : Array Value) (lost : Int) (m' p0' p1' : Int) (o0' o1' sp' : Bool) (a' b' : Int) (C' : Array Value) (lost' : Int) (w : World) (hr : isRow w g) (hr' : rowAt w g = #[.int .i64 m, .int .i64 p0, .int .i64 p1, .bool o0, .bool o1, .bool sp, .int .u32 a, .int .u32 b, .slice (some ⟨bl, 0, none⟩) n n, .int .i64 lost]) (hl : isRow w bl) (hl' : rowAt w bl = C) (hne : ¬ g = bl) (hne' : ¬ bl = g) (x y : Int) (hy : bits .and .u64 x 16777215 = y) (y0 : 0 ≤ y) (y1 : y ≤ 16777215) (ok : Bool) (mm : Int) (HE : Hid (∀ W : World, isRow W g → rowAt W g = #[.int .i64 m, .int .i64 p0, .int .i64 p1, .bool o0, .bool o1, .bool sp, .int .u32 a, .int .u32 b, .slice (some ⟨bl, 0, none⟩) n n, .int .i64 lost] → isRow W bl → rowAt W bl = C → Calls Try.prog 23 #[.pointer (some ⟨g, 0, none⟩), .int .i64 1, .int .i64 y] W fun e w' => e = .returned (.agg #[.bool ok, .int .i64 mm]) ∧ Row w' g #[.int .i64 m', .int .i64 p0', .int .i64 p1', .bool o0', .bool o1', .bool sp', .int .u32 a', .int .u32 b', .slice (some ⟨bl, 0, none⟩) n n, .int .i64 lost'] ∧ Row w' bl C' ∧ Aside2 g bl W w')) :
    Calls Try.prog 28 #[.pointer (some ⟨g, 0, none⟩), .int .i64 4, .bool true, .int .u64 x] w fun e w' => e = .returned (.tuple #[.int .u64 0, .agg #[.bool ok, .int .i64 mm], .bool true]) ∧ Row w' g #[.int .i64 m', .int .i64 p0', .int .i64 p1', .bool o0', .bool o1', .bool sp', .int .u32 a', .int .u32 b', .slice (some ⟨bl, 0, none⟩) n n, .int .i64 lost'] ∧ Row w' bl C' ∧ Aside2 g bl w w' := by
  have _u : True := by have _ := hne; have _ := hne'; have _ := y0; have _ := y1; trivial
  clear _u
  have hX : Aside2 g bl w w := .of_below (Below.refl _ _)
  have lr := hr.lt
  have ll := hl.lt
  have nr : ¬ g = w.heap.size := by omega
  have rn : ¬ w.heap.size = g := by omega
  have nl : ¬ bl = w.heap.size := by omega
  have ln : ¬ w.heap.size = bl := by omega
  have nr1 : ¬ g = w.heap.size + 1 := by omega
  have rn1 : ¬ w.heap.size + 1 = g := by omega
  have nl1 : ¬ bl = w.heap.size + 1 := by omega
  have ln1 : ¬ w.heap.size + 1 = bl := by omega
  have hB_0 : Below w.heap.size w w := Below.refl _ _
  have ne_V_E : ¬ g = w.heap.size := by omega
  have en_V_E : ¬ w.heap.size = g := by omega
  have ne_L_E : ¬ bl = w.heap.size := by omega
  have en_L_E : ¬ w.heap.size = bl := by omega
  have ne_V_N : ¬ g = (w.heap.size + 1) := by omega
  have en_V_N : ¬ (w.heap.size + 1) = g := by omega
  have ne_L_N : ¬ bl = (w.heap.size + 1) := by omega
  have en_L_N : ¬ (w.heap.size + 1) = bl := by omega
  have ne_E_N : ¬ w.heap.size = (w.heap.size + 1) := by omega
  have en_E_N : ¬ (w.heap.size + 1) = w.heap.size := by omega
  go_enter Try.func28, Try.ntmps28
  go_wp2_with fail
  refine (HE.out _ (by go_simp) (by go_simp) (by go_simp) (by go_simp)).mono ?_
  rintro e v1 ⟨rfl, ⟨V_1, V_1'⟩, ⟨L_1, L_1'⟩, hA1⟩
  obtain ⟨E_1, E_1'⟩ : Row v1 w.heap.size #[.bool false, .int .i64 0] := hA1.row ⟨by go_simp, by go_simp⟩ (by omega) (by omega)
  obtain ⟨N_1, N_1'⟩ : Row v1 (w.heap.size + 1) #[.bool false, .int .i64 (-1)] := hA1.row ⟨by go_simp, by go_simp⟩ (by omega) (by omega)
  have hB_1 : Aside2 g bl w v1 := Aside2.trans (by go_simp) hA1
  clear hr hr' hl hl' hX hA1
  have hz_1 : w.heap.size ≤ v1.heap.size := hB_1.size
  have hl_V_1 := isRow.lt V_1
  have hl_L_1 := isRow.lt L_1
  have hl_E_1 := isRow.lt E_1
  have hl_N_1 := isRow.lt N_1
  go_wp2
  exact bodyPost_ret (resD _ rfl _ _ (x := ok) (y := mm) (g := w.heap.size) rfl ⟨by go_simp, by go_simp⟩ rfl rfl) rfl ⟨rfl, ⟨by go_simp, by go_simp⟩, ⟨by go_simp, by go_simp⟩, by go_simp⟩
set_option maxRecDepth 100000 in
set_option maxHeartbeats 4000000 in
theorem do_d (g bl : Nat) (m p0 p1 : Int) (o0 o1 sp : Bool) (a b : Int) (n : Nat) (C : Array Value) (lost : Int) (m' p0' p1' : Int) (o0' o1' sp' : Bool) (a' b' : Int) (C' : Array Value) (lost' : Int) (w : World) (hr : isRow w g) (hr' : rowAt w g = #[.int .i64 m, .int .i64 p0, .int .i64 p1, .bool o0, .bool o1, .bool sp, .int .u32 a, .int .u32 b, .slice (some ⟨bl, 0, none⟩) n n, .int .i64 lost]) (hl : isRow w bl) (hl' : rowAt w bl = C) (hne : ¬ g = bl) (hne' : ¬ bl = g) (x y : Int) (hy : bits .and .u64 x 16777215 = y) (y0 : 0 ≤ y) (y1 : y ≤ 16777215) (ok : Bool) (mm : Int) (HE : Hid (∀ W : World, isRow W g → rowAt W g = #[.int .i64 m, .int .i64 p0, .int .i64 p1, .bool o0, .bool o1, .bool sp, .int .u32 a, .int .u32 b, .slice (some ⟨bl, 0, none⟩) n n, .int .i64 lost] → isRow W bl → rowAt W bl = C → Calls Try.prog 24 #[.pointer (some ⟨g, 0, none⟩), .int .i64 y] W fun e w' => e = .returned (.agg #[.bool ok, .int .i64 mm]) ∧ Row w' g #[.int .i64 m', .int .i64 p0', .int .i64 p1', .bool o0', .bool o1', .bool sp', .int .u32 a', .int .u32 b', .slice (some ⟨bl, 0, none⟩) n n, .int .i64 lost'] ∧ Row w' bl C' ∧ Aside2 g bl W w')) :
    Calls Try.prog 28 #[.pointer (some ⟨g, 0, none⟩), .int .i64 5, .bool true, .int .u64 x] w fun e w' => e = .returned (.tuple #[.int .u64 0, .agg #[.bool ok, .int .i64 mm], .bool true]) ∧ Row w' g #[.int .i64 m', .int .i64 p0', .int .i64 p1', .bool o0', .bool o1', .bool sp', .int .u32 a', .int .u32 b', .slice (some ⟨bl, 0, none⟩) n n, .int .i64 lost'] ∧ Row w' bl C' ∧ Aside2 g bl w w' := by
  have _u : True := by have _ := hne; have _ := hne'; have _ := y0; have _ := y1; trivial
  clear _u
  have hX : Aside2 g bl w w := .of_below (Below.refl _ _)
  have lr := hr.lt
  have ll := hl.lt
  have nr : ¬ g = w.heap.size := by omega
  have rn : ¬ w.heap.size = g := by omega
  have nl : ¬ bl = w.heap.size := by omega
  have ln : ¬ w.heap.size = bl := by omega
  have nr1 : ¬ g = w.heap.size + 1 := by omega
  have rn1 : ¬ w.heap.size + 1 = g := by omega
  have nl1 : ¬ bl = w.heap.size + 1 := by omega
  have ln1 : ¬ w.heap.size + 1 = bl := by omega
  have hB_0 : Below w.heap.size w w := Below.refl _ _
  have ne_V_E : ¬ g = w.heap.size := by omega
  have en_V_E : ¬ w.heap.size = g := by omega
  have ne_L_E : ¬ bl = w.heap.size := by omega
  have en_L_E : ¬ w.heap.size = bl := by omega
  have ne_V_N : ¬ g = (w.heap.size + 1) := by omega
  have en_V_N : ¬ (w.heap.size + 1) = g := by omega
  have ne_L_N : ¬ bl = (w.heap.size + 1) := by omega
  have en_L_N : ¬ (w.heap.size + 1) = bl := by omega
  have ne_E_N : ¬ w.heap.size = (w.heap.size + 1) := by omega
  have en_E_N : ¬ (w.heap.size + 1) = w.heap.size := by omega
  go_enter Try.func28, Try.ntmps28
  go_wp2_with fail
  refine (HE.out _ (by go_simp) (by go_simp) (by go_simp) (by go_simp)).mono ?_
  rintro e v1 ⟨rfl, ⟨V_1, V_1'⟩, ⟨L_1, L_1'⟩, hA1⟩
  obtain ⟨E_1, E_1'⟩ : Row v1 w.heap.size #[.bool false, .int .i64 0] := hA1.row ⟨by go_simp, by go_simp⟩ (by omega) (by omega)
  obtain ⟨N_1, N_1'⟩ : Row v1 (w.heap.size + 1) #[.bool false, .int .i64 (-1)] := hA1.row ⟨by go_simp, by go_simp⟩ (by omega) (by omega)
  have hB_1 : Aside2 g bl w v1 := Aside2.trans (by go_simp) hA1
  clear hr hr' hl hl' hX hA1
  have hz_1 : w.heap.size ≤ v1.heap.size := hB_1.size
  have hl_V_1 := isRow.lt V_1
  have hl_L_1 := isRow.lt L_1
  have hl_E_1 := isRow.lt E_1
  have hl_N_1 := isRow.lt N_1
  go_wp2
  exact bodyPost_ret (resD _ rfl _ _ (x := ok) (y := mm) (g := w.heap.size) rfl ⟨by go_simp, by go_simp⟩ rfl rfl) rfl ⟨rfl, ⟨by go_simp, by go_simp⟩, ⟨by go_simp, by go_simp⟩, by go_simp⟩
set_option maxRecDepth 100000 in
set_option maxHeartbeats 4000000 in
theorem do_w (g bl : Nat) (m p0 p1 : Int) (o0 o1 sp : Bool) (a b : Int) (n : Nat) (C : Array Value) (lost : Int) (m' p0' p1' : Int) (o0' o1' sp' : Bool) (a' b' : Int) (w : World) (hr : isRow w g) (hr' : rowAt w g = #[.int .i64 m, .int .i64 p0, .int .i64 p1, .bool o0, .bool o1, .bool sp, .int .u32 a, .int .u32 b, .slice (some ⟨bl, 0, none⟩) n n, .int .i64 lost]) (hl : isRow w bl) (hl' : rowAt w bl = C) (hne : ¬ g = bl) (hne' : ¬ bl = g) (x y : Int) (hy : bits .and .u64 x 16777215 = y) (y0 : 0 ≤ y) (y1 : y ≤ 16777215) (r : Int) (t3 : (r == 3) = false) (t4 : (r == 4) = false) (t5 : (r == 5) = false) (ok : Bool) (HW : Hid (∀ W : World, isRow W g → rowAt W g = #[.int .i64 m, .int .i64 p0, .int .i64 p1, .bool o0, .bool o1, .bool sp, .int .u32 a, .int .u32 b, .slice (some ⟨bl, 0, none⟩) n n, .int .i64 lost] → Calls Try.prog 54 #[.pointer (some ⟨g, 0, none⟩), .int .i64 r, .int .u64 x] W fun e w' => e = .returned (.bool ok) ∧ Row w' g #[.int .i64 m', .int .i64 p0', .int .i64 p1', .bool o0', .bool o1', .bool sp', .int .u32 a', .int .u32 b', .slice (some ⟨bl, 0, none⟩) n n, .int .i64 lost] ∧ Aside g W w')) :
    Calls Try.prog 28 #[.pointer (some ⟨g, 0, none⟩), .int .i64 r, .bool true, .int .u64 x] w fun e w' => e = .returned (.tuple #[.int .u64 0, .agg #[.bool false, .int .i64 (-1)], .bool ok]) ∧ Row w' g #[.int .i64 m', .int .i64 p0', .int .i64 p1', .bool o0', .bool o1', .bool sp', .int .u32 a', .int .u32 b', .slice (some ⟨bl, 0, none⟩) n n, .int .i64 lost] ∧ Row w' bl C ∧ Aside2 g bl w w' := by
  have _u : True := by have _ := hne; have _ := hne'; have _ := y0; have _ := y1; trivial
  clear _u
  have hX : Aside2 g bl w w := .of_below (Below.refl _ _)
  have lr := hr.lt
  have ll := hl.lt
  have nr : ¬ g = w.heap.size := by omega
  have rn : ¬ w.heap.size = g := by omega
  have nl : ¬ bl = w.heap.size := by omega
  have ln : ¬ w.heap.size = bl := by omega
  have nr1 : ¬ g = w.heap.size + 1 := by omega
  have rn1 : ¬ w.heap.size + 1 = g := by omega
  have nl1 : ¬ bl = w.heap.size + 1 := by omega
  have ln1 : ¬ w.heap.size + 1 = bl := by omega
  have hB_0 : Below w.heap.size w w := Below.refl _ _
  have ne_V_E : ¬ g = w.heap.size := by omega
  have en_V_E : ¬ w.heap.size = g := by omega
  have ne_L_E : ¬ bl = w.heap.size := by omega
  have en_L_E : ¬ w.heap.size = bl := by omega
  have ne_V_N : ¬ g = (w.heap.size + 1) := by omega
  have en_V_N : ¬ (w.heap.size + 1) = g := by omega
  have ne_L_N : ¬ bl = (w.heap.size + 1) := by omega
  have en_L_N : ¬ (w.heap.size + 1) = bl := by omega
  have ne_E_N : ¬ w.heap.size = (w.heap.size + 1) := by omega
  have en_E_N : ¬ (w.heap.size + 1) = w.heap.size := by omega
  go_enter Try.func28, Try.ntmps28
  go_wp2_with fail
  refine wp_named (fun W_ => (isRow W_ g ∧ rowAt W_ g = #[.int .i64 m, .int .i64 p0, .int .i64 p1, .bool o0, .bool o1, .bool sp, .int .u32 a, .int .u32 b, .slice (some ⟨bl, 0, none⟩) n n, .int .i64 lost]) ∧ (isRow W_ bl ∧ rowAt W_ bl = C) ∧ (isRow W_ w.heap.size ∧ rowAt W_ w.heap.size = #[.bool false, .int .i64 0]) ∧ (isRow W_ (w.heap.size + 1) ∧ rowAt W_ (w.heap.size + 1) = #[.bool false, .int .i64 (-1)]) ∧ Aside2 g bl w W_) (by refine ⟨⟨by go_simp, by go_simp⟩, ⟨by go_simp, by go_simp⟩, ⟨by go_simp, by go_simp⟩, ⟨by go_simp, by go_simp⟩, by go_simp⟩) ?_
  rintro v1 ⟨⟨V_1, V_1'⟩, ⟨L_1, L_1'⟩, ⟨E_1, E_1'⟩, ⟨N_1, N_1'⟩, hB_1⟩
  clear hr hr' hl hl' hX
  have hz_1 : w.heap.size ≤ v1.heap.size := hB_1.size
  have hl_V_1 := isRow.lt V_1
  have hl_L_1 := isRow.lt L_1
  have hl_E_1 := isRow.lt E_1
  have hl_N_1 := isRow.lt N_1
  refine wp_region_held_drew (S := fun w' => (isRow w' bl ∧ rowAt w' bl = C) ∧ (isRow w' w.heap.size ∧ (rowAt w' w.heap.size).size = 2) ∧ (isRow w' (w.heap.size + 1) ∧ rowAt w' (w.heap.size + 1) = #[.bool false, .int .i64 (-1)]) ∧ Aside2 g bl w w') (by kernel_rfl) ⟨⟨by go_simp, by go_simp⟩, ⟨by go_simp, by go_simp⟩, ⟨by go_simp, by go_simp⟩, by go_simp⟩ (fun hHeld => ?_)
  refine wpAnyH_take (i := 0) (oi := { dst := some 102, op := Op.load 57 (Operand.tmp 11), type := 57, pos := "vcpu.go:175", after := #[{ on := 7, ground := Ground.gcOnly Departure.lateStores }], guard := none }) (v := ?_) rfl (by kernel_rfl) (by kernel_rfl) (by kernel_rfl) (fun _ _ _ h => h) (Or.inl ⟨by rfl, ?_⟩) (by assumption) ?_
  rotate_left
  · (intro w_ hS_; (try dsimp only at hS_); go_simp; try with_reducible rfl)
  try simp only [Act.put, List.setIfInBounds_toArray, List.set_cons_zero, List.set_cons_succ]
  refine wpAnyH_take (i := 1) (oi := { dst := some 103, op := Op.move (Operand.tmp 0), type := 24, pos := "vcpu.go:175", after := #[], guard := none }) (v := ?_) rfl (by kernel_rfl) (by kernel_rfl) (by kernel_rfl) (fun _ _ _ h => h) (Or.inl ⟨by rfl, ?_⟩) (by assumption) ?_
  rotate_left
  · (intro w_ hS_; (try dsimp only at hS_); go_simp; try with_reducible rfl)
  try simp only [Act.put, List.setIfInBounds_toArray, List.set_cons_zero, List.set_cons_succ]
  refine wpAnyH_take (i := 2) (oi := { dst := some 104, op := Op.nilCheck (Operand.tmp 103), type := 0, pos := "vcpu.go:175", after := #[{ on := 1, ground := Ground.data }], guard := none }) (v := ?_) rfl (by kernel_rfl) (by kernel_rfl) (by kernel_rfl) (fun _ _ _ h => h) (Or.inl ⟨by rfl, ?_⟩) (by assumption) ?_
  rotate_left
  · (intro w_ hS_; (try dsimp only at hS_); go_simp; try with_reducible rfl)
  try simp only [Act.put, List.setIfInBounds_toArray, List.set_cons_zero, List.set_cons_succ]
  refine wpAnyH_take (i := 3) (oi := { dst := some 105, op := Op.fieldAddr 37 (Operand.tmp 104) 0, type := 0, pos := "vcpu.go:175", after := #[{ on := 2, ground := Ground.data }], guard := none }) (v := ?_) rfl (by kernel_rfl) (by kernel_rfl) (by kernel_rfl) (fun _ _ _ h => h) (Or.inl ⟨by rfl, ?_⟩) (by assumption) ?_
  rotate_left
  · (intro w_ hS_; (try dsimp only at hS_); go_simp; try with_reducible rfl)
  try simp only [Act.put, List.setIfInBounds_toArray, List.set_cons_zero, List.set_cons_succ]
  refine wpAnyH_take (i := 4) (oi := { dst := some 106, op := Op.move (Operand.tmp 1), type := 66, pos := "vcpu.go:175", after := #[], guard := none }) (v := ?_) rfl (by kernel_rfl) (by kernel_rfl) (by kernel_rfl) (fun _ _ _ h => h) (Or.inl ⟨by rfl, ?_⟩) (by assumption) ?_
  rotate_left
  · (intro w_ hS_; (try dsimp only at hS_); go_simp; try with_reducible rfl)
  try simp only [Act.put, List.setIfInBounds_toArray, List.set_cons_zero, List.set_cons_succ]
  refine wpAnyH_take (i := 5) (oi := { dst := some 107, op := Op.move (Operand.tmp 3), type := 67, pos := "vcpu.go:175", after := #[], guard := none }) (v := ?_) rfl (by kernel_rfl) (by kernel_rfl) (by kernel_rfl) (fun _ _ _ h => h) (Or.inl ⟨by rfl, ?_⟩) (by assumption) ?_
  rotate_left
  · (intro w_ hS_; (try dsimp only at hS_); go_simp; try with_reducible rfl)
  try simp only [Act.put, List.setIfInBounds_toArray, List.set_cons_zero, List.set_cons_succ]
  refine wpAnyH_ready (rs := [6]) (by kernel_rfl) (by simp) ?_
  refine AllReadyH.cons (o := { dst := some 108, op := Op.call { callee := Callee.value (Operand.func 54), args := #[Operand.tmp 105, Operand.tmp 106, Operand.tmp 107], argTypes := #[35, 66, 67] }, type := 4, pos := "vcpu.go:175", after := #[{ on := 3, ground := Ground.data }, { on := 4, ground := Ground.data }, { on := 5, ground := Ground.data }], guard := none }) rfl (fun K hK => ?_) AllReadyH.nil
  (have hq_ := hHeld; (try dsimp only at hq_))
  obtain ⟨⟨PL_2_1, PL_2_1'⟩, ⟨PE_2_1, PE_2_1'⟩, ⟨PN_2_1, PN_2_1'⟩, hF_2_1⟩ := hq_
  go_simp
  refine (HW.out _ (by go_simp) (by go_simp)).mono ?_
  rintro e u2_1 ⟨rfl, ⟨V_2_1, V_2_1'⟩, hA2_1⟩
  refine hK.out _ _ ?_ (fun hHeld => ?_)
  · exact ⟨⟨(hA2_1.row ⟨PL_2_1, rfl⟩ (by omega)).1, by rw [(hA2_1.row ⟨PL_2_1, rfl⟩ (by omega)).2]; exact PL_2_1'⟩, ⟨(hA2_1.row ⟨PE_2_1, rfl⟩ (by omega)).1, by rw [(hA2_1.row ⟨PE_2_1, rfl⟩ (by omega)).2]; exact PE_2_1'⟩, ⟨(hA2_1.row ⟨PN_2_1, rfl⟩ (by omega)).1, by rw [(hA2_1.row ⟨PN_2_1, rfl⟩ (by omega)).2]; exact PN_2_1'⟩, Aside2.trans hF_2_1 (Aside2.left hA2_1)⟩
  clear hK K
  try simp only [Act.put, List.setIfInBounds_toArray, List.set_cons_zero, List.set_cons_succ]
  refine wpAnyH_take (i := 7) (oi := { dst := some 8, op := Op.assign (Operand.const (Value.int IntKind.u64 0)), type := 67, pos := "vcpu.go:175", after := #[{ on := 6, ground := Ground.chain }, { on := 0, ground := Ground.textOnly Departure.lateStores }, { on := 1, ground := Ground.textOnly Departure.lateStores }, { on := 2, ground := Ground.textOnly Departure.lateStores }, { on := 3, ground := Ground.textOnly Departure.lateStores }, { on := 4, ground := Ground.textOnly Departure.lateStores }, { on := 5, ground := Ground.textOnly Departure.lateStores }, { on := 6, ground := Ground.textOnly Departure.lateStoresUnsure }], guard := none }) (v := ?_) rfl (by kernel_rfl) (by kernel_rfl) (by kernel_rfl) (fun _ _ _ h => h) (Or.inl ⟨by rfl, ?_⟩) (by assumption) ?_
  rotate_left
  · (intro w_ hS_; (try dsimp only at hS_); go_simp; try with_reducible rfl)
  try simp only [Act.put, List.setIfInBounds_toArray, List.set_cons_zero, List.set_cons_succ]
  refine wpAnyH_ready (rs := [8]) (by kernel_rfl) (by simp) ?_
  refine AllReadyH.cons (o := { dst := none, op := Op.store 57 (Operand.tmp 9) (Operand.tmp 102), type := 0, pos := "vcpu.go:175", after := #[{ on := 0, ground := Ground.data }, { on := 7, ground := Ground.chain }, { on := 0, ground := Ground.phase }, { on := 1, ground := Ground.textOnly Departure.lateStores }, { on := 2, ground := Ground.textOnly Departure.lateStores }, { on := 3, ground := Ground.textOnly Departure.lateStores }, { on := 4, ground := Ground.textOnly Departure.lateStores }, { on := 5, ground := Ground.textOnly Departure.lateStores }, { on := 6, ground := Ground.textOnly Departure.lateStoresUnsure }, { on := 7, ground := Ground.phase }], guard := none }) rfl (fun K hK => ?_) AllReadyH.nil
  (have hq_ := hHeld; (try dsimp only at hq_))
  obtain ⟨⟨PL_2_2, PL_2_2'⟩, ⟨PE_2_2, PE_2_2'⟩, ⟨PN_2_2, PN_2_2'⟩, hF_2_2⟩ := hq_
  go_simp
  refine hK.out _ _ ?_ (fun hHeld => ?_)
  · (refine ⟨⟨by go_simp, by go_simp⟩, ⟨by go_simp, by go_simp⟩, ⟨by go_simp, by go_simp⟩, by go_simp⟩)
  clear hK K
  try simp only [Act.put, List.setIfInBounds_toArray, List.set_cons_zero, List.set_cons_succ]
  refine wpAnyH_take (i := 9) (oi := { dst := some 10, op := Op.assign (Operand.tmp 108), type := 4, pos := "vcpu.go:175", after := #[{ on := 6, ground := Ground.data }, { on := 8, ground := Ground.chain }, { on := 0, ground := Ground.phase }, { on := 1, ground := Ground.phase }, { on := 2, ground := Ground.phase }, { on := 3, ground := Ground.phase }, { on := 4, ground := Ground.phase }, { on := 5, ground := Ground.phase }, { on := 6, ground := Ground.phase }, { on := 7, ground := Ground.phase }, { on := 8, ground := Ground.phase }], guard := none }) (v := ?_) rfl (by kernel_rfl) (by kernel_rfl) (by kernel_rfl) (fun _ _ _ h => h) (Or.inl ⟨by rfl, ?_⟩) (by assumption) ?_
  rotate_left
  · (intro w_ hS_; (try dsimp only at hS_); go_simp; try with_reducible rfl)
  try simp only [Act.put, List.setIfInBounds_toArray, List.set_cons_zero, List.set_cons_succ]
  refine wpAnyH_done (by kernel_rfl) ?_ _
  (try dsimp only at hHeld)
  go_split_ands
  go_wp2
  exact bodyPost_ret (resD _ rfl _ _ (x := false) (y := (-1)) (g := w.heap.size) rfl ⟨by go_simp, by go_simp⟩ rfl rfl) rfl ⟨rfl, ⟨by go_simp, by go_simp⟩, ⟨by go_simp, by go_simp⟩, by go_simp⟩
set_option maxRecDepth 100000 in
set_option maxHeartbeats 4000000 in
theorem do_r (g bl : Nat) (m p0 p1 : Int) (o0 o1 sp : Bool) (a b : Int) (n : Nat) (C : Array Value) (lost : Int)  (w : World) (hr : isRow w g) (hr' : rowAt w g = #[.int .i64 m, .int .i64 p0, .int .i64 p1, .bool o0, .bool o1, .bool sp, .int .u32 a, .int .u32 b, .slice (some ⟨bl, 0, none⟩) n n, .int .i64 lost]) (hl : isRow w bl) (hl' : rowAt w bl = C) (hne : ¬ g = bl) (hne' : ¬ bl = g) (x y : Int) (hy : bits .and .u64 x 16777215 = y) (y0 : 0 ≤ y) (y1 : y ≤ 16777215) (r : Int) (t1 : (r == 1) = false) (t2 : (r == 2) = false) (t13 : (r == 13) = false) (t14 : (r == 14) = false) (id : Int) (ok : Bool) (HR : Hid (∀ W : World, Calls Try.prog 55 #[.agg #[.int .i64 m, .int .i64 p0, .int .i64 p1, .bool o0, .bool o1, .bool sp, .int .u32 a, .int .u32 b], .int .i64 r] W fun e w' => e = .returned (.tuple #[.int .u64 id, .bool ok]) ∧ Below W.heap.size W w')) :
    Calls Try.prog 28 #[.pointer (some ⟨g, 0, none⟩), .int .i64 r, .bool false, .int .u64 x] w fun e w' => e = .returned (.tuple #[.int .u64 id, .agg #[.bool false, .int .i64 (-1)], .bool ok]) ∧ Row w' g #[.int .i64 m, .int .i64 p0, .int .i64 p1, .bool o0, .bool o1, .bool sp, .int .u32 a, .int .u32 b, .slice (some ⟨bl, 0, none⟩) n n, .int .i64 lost] ∧ Row w' bl C ∧ Aside2 g bl w w' := by
  have _u : True := by have _ := hne; have _ := hne'; have _ := y0; have _ := y1; trivial
  clear _u
  have hX : Aside2 g bl w w := .of_below (Below.refl _ _)
  have lr := hr.lt
  have ll := hl.lt
  have nr : ¬ g = w.heap.size := by omega
  have rn : ¬ w.heap.size = g := by omega
  have nl : ¬ bl = w.heap.size := by omega
  have ln : ¬ w.heap.size = bl := by omega
  have nr1 : ¬ g = w.heap.size + 1 := by omega
  have rn1 : ¬ w.heap.size + 1 = g := by omega
  have nl1 : ¬ bl = w.heap.size + 1 := by omega
  have ln1 : ¬ w.heap.size + 1 = bl := by omega
  have hB_0 : Below w.heap.size w w := Below.refl _ _
  have ne_V_E : ¬ g = w.heap.size := by omega
  have en_V_E : ¬ w.heap.size = g := by omega
  have ne_L_E : ¬ bl = w.heap.size := by omega
  have en_L_E : ¬ w.heap.size = bl := by omega
  have ne_V_N : ¬ g = (w.heap.size + 1) := by omega
  have en_V_N : ¬ (w.heap.size + 1) = g := by omega
  have ne_L_N : ¬ bl = (w.heap.size + 1) := by omega
  have en_L_N : ¬ (w.heap.size + 1) = bl := by omega
  have ne_E_N : ¬ w.heap.size = (w.heap.size + 1) := by omega
  have en_E_N : ¬ (w.heap.size + 1) = w.heap.size := by omega
  go_enter Try.func28, Try.ntmps28
  go_wp2_with fail
  refine (HR.out _).mono ?_
  rintro e v1 ⟨rfl, hb1⟩
  obtain ⟨V_1, V_1'⟩ : Row v1 g #[.int .i64 m, .int .i64 p0, .int .i64 p1, .bool o0, .bool o1, .bool sp, .int .u32 a, .int .u32 b, .slice (some ⟨bl, 0, none⟩) n n, .int .i64 lost] := Row.step (by go_simp) (by go_simp) hb1
  obtain ⟨L_1, L_1'⟩ : Row v1 bl C := Row.step (by go_simp) (by go_simp) hb1
  obtain ⟨E_1, E_1'⟩ : Row v1 w.heap.size #[.bool false, .int .i64 0] := Row.step (by go_simp) (by go_simp) hb1
  obtain ⟨N_1, N_1'⟩ : Row v1 (w.heap.size + 1) #[.bool false, .int .i64 (-1)] := Row.step (by go_simp) (by go_simp) hb1
  have hB_1 : Aside2 g bl w v1 := Aside2.low (by go_simp) hb1
  clear hr hr' hl hl' hX hb1
  have hz_1 : w.heap.size ≤ v1.heap.size := hB_1.size
  have hl_V_1 := isRow.lt V_1
  have hl_L_1 := isRow.lt L_1
  have hl_E_1 := isRow.lt E_1
  have hl_N_1 := isRow.lt N_1
  go_wp2_with fail
  refine wp_named (fun W_ => (isRow W_ g ∧ rowAt W_ g = #[.int .i64 m, .int .i64 p0, .int .i64 p1, .bool o0, .bool o1, .bool sp, .int .u32 a, .int .u32 b, .slice (some ⟨bl, 0, none⟩) n n, .int .i64 lost]) ∧ (isRow W_ bl ∧ rowAt W_ bl = C) ∧ (isRow W_ w.heap.size ∧ rowAt W_ w.heap.size = #[.bool false, .int .i64 0]) ∧ (isRow W_ (w.heap.size + 1) ∧ rowAt W_ (w.heap.size + 1) = #[.bool false, .int .i64 (-1)]) ∧ Aside2 g bl w W_) (by refine ⟨⟨by go_simp, by go_simp⟩, ⟨by go_simp, by go_simp⟩, ⟨by go_simp, by go_simp⟩, ⟨by go_simp, by go_simp⟩, by go_simp⟩) ?_
  rintro v2 ⟨⟨V_2, V_2'⟩, ⟨L_2, L_2'⟩, ⟨E_2, E_2'⟩, ⟨N_2, N_2'⟩, hB_2⟩
  clear V_1 V_1' L_1 L_1' E_1 E_1' N_1 N_1' hB_1
  have hz_2 : w.heap.size ≤ v2.heap.size := hB_2.size
  have hl_V_2 := isRow.lt V_2
  have hl_L_2 := isRow.lt L_2
  have hl_E_2 := isRow.lt E_2
  have hl_N_2 := isRow.lt N_2
  refine wp_region_held_drew (S := fun w' => (isRow w' g ∧ rowAt w' g = #[.int .i64 m, .int .i64 p0, .int .i64 p1, .bool o0, .bool o1, .bool sp, .int .u32 a, .int .u32 b, .slice (some ⟨bl, 0, none⟩) n n, .int .i64 lost]) ∧ (isRow w' bl ∧ rowAt w' bl = C) ∧ (isRow w' w.heap.size ∧ (rowAt w' w.heap.size).size = 2) ∧ (isRow w' (w.heap.size + 1) ∧ rowAt w' (w.heap.size + 1) = #[.bool false, .int .i64 (-1)]) ∧ Aside2 g bl w w') (by kernel_rfl) ⟨⟨by go_simp, by go_simp⟩, ⟨by go_simp, by go_simp⟩, ⟨by go_simp, by go_simp⟩, ⟨by go_simp, by go_simp⟩, by go_simp⟩ (fun hHeld => ?_)
  refine wpAnyH_take (i := 0) (oi := { dst := some 118, op := Op.move (Operand.tmp 13), type := 67, pos := "vcpu.go:178", after := #[], guard := none }) (v := ?_) rfl (by kernel_rfl) (by kernel_rfl) (by kernel_rfl) (fun _ _ _ h => h) (Or.inl ⟨by rfl, ?_⟩) (by assumption) ?_
  rotate_left
  · (intro w_ hS_; (try dsimp only at hS_); go_simp; try with_reducible rfl)
  try simp only [Act.put, List.setIfInBounds_toArray, List.set_cons_zero, List.set_cons_succ]
  refine wpAnyH_take (i := 1) (oi := { dst := some 119, op := Op.load 57 (Operand.tmp 11), type := 57, pos := "vcpu.go:178", after := #[{ on := 3, ground := Ground.gcOnly Departure.lateStores }], guard := none }) (v := ?_) rfl (by kernel_rfl) (by kernel_rfl) (by kernel_rfl) (fun _ _ _ h => h) (Or.inl ⟨by rfl, ?_⟩) (by assumption) ?_
  rotate_left
  · (intro w_ hS_; (try dsimp only at hS_); go_simp; try with_reducible rfl)
  try simp only [Act.put, List.setIfInBounds_toArray, List.set_cons_zero, List.set_cons_succ]
  refine wpAnyH_take (i := 2) (oi := { dst := some 120, op := Op.move (Operand.tmp 14), type := 4, pos := "vcpu.go:178", after := #[{ on := 4, ground := Ground.gcOnly Departure.lateStores }], guard := none }) (v := ?_) rfl (by kernel_rfl) (by kernel_rfl) (by kernel_rfl) (fun _ _ _ h => h) (Or.inl ⟨by rfl, ?_⟩) (by assumption) ?_
  rotate_left
  · (intro w_ hS_; (try dsimp only at hS_); go_simp; try with_reducible rfl)
  try simp only [Act.put, List.setIfInBounds_toArray, List.set_cons_zero, List.set_cons_succ]
  refine wpAnyH_take (i := 3) (oi := { dst := some 8, op := Op.assign (Operand.tmp 118), type := 67, pos := "vcpu.go:178", after := #[{ on := 0, ground := Ground.data }, { on := 0, ground := Ground.phase }, { on := 1, ground := Ground.textOnly Departure.lateStores }, { on := 2, ground := Ground.textOnly Departure.lateStores }], guard := none }) (v := ?_) rfl (by kernel_rfl) (by kernel_rfl) (by kernel_rfl) (fun _ _ _ h => h) (Or.inl ⟨by rfl, ?_⟩) (by assumption) ?_
  rotate_left
  · (intro w_ hS_; (try dsimp only at hS_); go_simp; try with_reducible rfl)
  try simp only [Act.put, List.setIfInBounds_toArray, List.set_cons_zero, List.set_cons_succ]
  refine wpAnyH_ready (rs := [4]) (by kernel_rfl) (by simp) ?_
  refine AllReadyH.cons (o := { dst := none, op := Op.store 57 (Operand.tmp 9) (Operand.tmp 119), type := 0, pos := "vcpu.go:178", after := #[{ on := 1, ground := Ground.data }, { on := 3, ground := Ground.chain }, { on := 0, ground := Ground.phase }, { on := 1, ground := Ground.phase }, { on := 2, ground := Ground.textOnly Departure.lateStores }, { on := 3, ground := Ground.phase }], guard := none }) rfl (fun K hK => ?_) AllReadyH.nil
  (have hq_ := hHeld; (try dsimp only at hq_))
  obtain ⟨⟨PV_3_1, PV_3_1'⟩, ⟨PL_3_1, PL_3_1'⟩, ⟨PE_3_1, PE_3_1'⟩, ⟨PN_3_1, PN_3_1'⟩, hF_3_1⟩ := hq_
  go_simp
  refine hK.out _ _ ?_ (fun hHeld => ?_)
  · (refine ⟨⟨by go_simp, by go_simp⟩, ⟨by go_simp, by go_simp⟩, ⟨by go_simp, by go_simp⟩, ⟨by go_simp, by go_simp⟩, by go_simp⟩)
  clear hK K
  try simp only [Act.put, List.setIfInBounds_toArray, List.set_cons_zero, List.set_cons_succ]
  refine wpAnyH_take (i := 5) (oi := { dst := some 10, op := Op.assign (Operand.tmp 120), type := 4, pos := "vcpu.go:178", after := #[{ on := 2, ground := Ground.data }, { on := 4, ground := Ground.chain }, { on := 0, ground := Ground.phase }, { on := 1, ground := Ground.phase }, { on := 2, ground := Ground.phase }, { on := 3, ground := Ground.phase }, { on := 4, ground := Ground.phase }], guard := none }) (v := ?_) rfl (by kernel_rfl) (by kernel_rfl) (by kernel_rfl) (fun _ _ _ h => h) (Or.inl ⟨by rfl, ?_⟩) (by assumption) ?_
  rotate_left
  · (intro w_ hS_; (try dsimp only at hS_); go_simp; try with_reducible rfl)
  try simp only [Act.put, List.setIfInBounds_toArray, List.set_cons_zero, List.set_cons_succ]
  refine wpAnyH_done (by kernel_rfl) ?_ _
  (try dsimp only at hHeld)
  go_split_ands
  go_wp2
  exact bodyPost_ret (resD _ rfl _ _ (x := false) (y := (-1)) (g := w.heap.size) rfl ⟨by go_simp, by go_simp⟩ rfl rfl) rfl ⟨rfl, ⟨by go_simp, by go_simp⟩, ⟨by go_simp, by go_simp⟩, by go_simp⟩
end Go.Proofs.Ytkbaghblchlcnaa.Lr
