/- Texts of this claim, put together: Uo, Us, Ut, Uu, Uv, Uwa, Uwb, Uwc, Ux, Uy. -/
import Derived.Test.YtkbaghblchlcnaaD26
import Derived.RegionIn
import Derived.Deep.RegionWith
namespace Go.Proofs.Ytkbaghblchlcnaa.Lr.Wd
open Go.RowKit Go.Shelf Go.Proofs.YtkbaghblchlcnaaW.PrintWords Go.Proofs.Ytkbaghblchlcnaa.IAll
attribute [local go_sem] Oper.semAt_some cell_row frozen_row isRow_setCell_eq rowAt_setCell_same rowAt_setCell_other isRow_alloc_eq rowAt_alloc rowAt_new rowAt_new' isRow_setRow_eq rowAt_setRow_same rowAt_setRow_other isRow_drew rowAt_drew size_setRow_ Lb_size Lb_at blk_ptr aggOf_agg below_alloc_e below_setCell_e below_setRow_e below_refl_e below_drew_r aside2_alloc_e aside2_setCell_e aside2_setRow_e aside2_drew_e aside2_refl_e aside2_drewN_e isRow_drewN rowAt_drewN below_drewN_e le_add_r offv_ptr one_lad zero_lad allOne_nil allOne_cons Value.oneCell' addr_at FA_size one_FA RV_size RV_get70 RV_get71 RV_at70 RV_at71 RV_at5 RV_low RV_set71 RV_ext RV_spl cell_setRow_other spl_full
attribute [local go_sem ↓] storeI storeC storeE run_clear_rowT storeLm
attribute [local go_sem] eq2i eq2b eq2u
set_option maxRecDepth 100000 in
set_option maxHeartbeats 4000000 in
theorem unload_c (g bl : Nat) (m p0 p1 : Int) (o0 o1 sp : Bool) (a b : Int) (n cc : Nat) (T : Array Value) (lost : Int) (xs : List S54) (hn : 0 < n) (w : World) (hr : isRow w g) (hr' : rowAt w g = #[.int .i64 m, .int .i64 p0, .int .i64 p1, .bool o0, .bool o1, .bool sp, .int .u32 a, .int .u32 b, .slice (some ⟨bl, 0, none⟩) n cc, .int .i64 lost]) (hl : isRow w bl) (hl' : rowAt w bl = FT xs T) (hne : ¬ g = bl) (hne' : ¬ bl = g) (HN : Hid (xs.length = n)) (hn16 : n ≤ 16) :
    Calls Try.prog 27 #[.pointer (some ⟨g, 0, none⟩)] w fun e w' => ∃ v, e = .returned v ∧ w'.ownsRow w.heap.size 54 7 v (nf xs).length (fl (nf xs)) ∧ Row w' g #[.int .i64 m, .int .i64 p0, .int .i64 p1, .bool o0, .bool o1, .bool sp, .int .u32 a, .int .u32 b, .slice (some ⟨bl, 0, none⟩) n cc, .int .i64 lost] ∧ Row w' bl (FT (List.replicate n z54) T) ∧ Aside2 g bl w w' := by
  have _u : True := by have _ := hne; have _ := hne'; trivial
  clear _u
  obtain ⟨i0, hi, hz0, hz1, hz2⟩ := info_parts infoL3
  have hX : Aside2 g bl w w := .of_below (Below.refl _ _)
  have lr := hr.lt
  have ll := hl.lt
  have hnx := HN.out
  go_enter Try.func27, Try.ntmps27
  go_wp2_with fail
  go_loopw [3, 5, 11] (fun v _ i wr => ∃ k : Nat, k ≤ n ∧ i = .int .i64 k ∧ wr.ownsRow w.heap.size 54 7 v (nf (xs.take k)).length (fl (nf (xs.take k))) ∧ Row wr g #[.int .i64 m, .int .i64 p0, .int .i64 p1, .bool o0, .bool o1, .bool sp, .int .u32 a, .int .u32 b, .slice (some ⟨bl, 0, none⟩) n cc, .int .i64 lost] ∧ Row wr bl (FT xs T) ∧ Aside2 g bl w wr) (fun _ _ i _ => n - (intOf i).toNat)
  case atStart => exact ⟨0, by omega, rfl, World.ownsRow_nil _ _ _ _, ⟨hr, hr'⟩, ⟨hl, hl'⟩, hX⟩
  case round =>
    clear hr hr' hl hl' hX
    obtain ⟨k, hk, rfl, hrow, ⟨V2, V2'⟩, ⟨L2, L2'⟩, hB⟩ := hrel
    have hsz : w.heap.size ≤ wr.heap.size := hB.size
    by_cases hkn : k < n
    · have k1 : (0 : Int) ≤ (k : Int) := by omega
      have k2 : (k : Int) < (n : Int) := by omega
      obtain ⟨c0, c1, c2, c3, c4, c5, c6⟩ := FT_gets xs T k (by omega)
      have hnt := nf_take xs k (by omega)
      have hnl := nf_length (xs.take k)
      rw [List.length_take] at hnl
      generalize hC1 : FT xs T = C1 at *
      generalize hY : nf (xs.take k) = ys at *
      generalize hE : rd_T54 xs k = el at *
      have hfe : fl (ys ++ [el]) = fl ys ++ (enc el).toList := fl_snoc ys el
      obtain ⟨s0, s1, s2, s3, s4, s5, s6⟩ := el
      simp only at c0 c1 c2 c3 c4 c5 c6 hnt
      have hb1 : ¬ g = wr.heap.size := by omega
      have hb2 : ¬ bl = wr.heap.size := by omega
      have hb3 : ¬ wr.heap.size = g := by omega
      have hb4 : ¬ wr.heap.size = bl := by omega
      have HFE := Lib.hid hfe
      by_cases hst : (s0 != 0) = true
      · rw [if_pos hst] at hnt
        have HNT := Lib.hid hnt
        clear hC1 hY hE hnt hfe hnx
        go_wp2_with (at_builtin; refine wpList_append_own _ rfl _ _ 22 rfl w.heap.size 54 i0 (.agg (enc z54)) 7 56 Try.underlying22 hi hz0 hz1 hz2 rfl (by decide) _ _ _ rfl ((own_set (hrow.alloc _) (fun j hj e => by have := own_lt hrow j hj; omega)).alloc _) ⟨wr.heap.size + 1, 0, none⟩ 1 1 [.int .i64 s0, .int .i64 s1, .int .i64 s2, .int .i64 s3, .bool s4, .int .i64 s5, .bool s6] rfl rfl (cells_new' _ _ #[.int .i64 s0, .int .i64 s1, .int .i64 s2, .int .i64 s3, .bool s4, .int .i64 s5, .bool s6] _ (by simp)) (by simp [Value.oneCell']) (by unfold maxLen; omega) (by omega) (by simp; omega) ?_; intro v' w1 hown' hgrow _; have hBo := own_below (own_set (hrow.alloc _) (fun j hj e => by have := own_lt hrow j hj; omega)) (by simp; omega) hgrow; obtain ⟨V3, V3'⟩ : Row w1 g #[.int .i64 m, .int .i64 p0, .int .i64 p1, .bool o0, .bool o1, .bool sp, .int .u32 a, .int .u32 b, .slice (some ⟨bl, 0, none⟩) n cc, .int .i64 lost] := Row.below ⟨by go_simp, by go_simp⟩ hBo lr; obtain ⟨L3, L3'⟩ : Row w1 bl C1 := Row.below ⟨by go_simp, by go_simp⟩ hBo ll; have hX3 : Aside2 g bl w w1 := aside2_low' (by go_simp) hBo)
        go_roundw
        case rel => exact ⟨k + 1, by omega, by go_num, by rw [HNT.out, HFE.out]; simpa [enc] using hown', ⟨by go_simp, by go_simp⟩, ⟨by go_simp, by go_simp⟩, hX3⟩
        case measure => simp [intOf]; omega
      · rw [if_neg hst, List.append_nil] at hnt
        have hst' : (s0 != 0) = false := by simpa using hst
        have HNT := Lib.hid hnt
        clear hC1 hY hE hnt hfe hst hnx
        go_wp2
        go_roundw
        case rel => exact ⟨k + 1, by omega, by go_num, by rw [HNT.out]; exact own_set (hrow.alloc _) (fun j hj e => by have := own_lt hrow j hj; omega), ⟨by go_simp, by go_simp⟩, ⟨by go_simp, by go_simp⟩, by go_simp⟩
        case measure => simp [intOf]; omega
    · obtain rfl : k = n := by omega
      rw [List.take_of_length_le (by omega)] at hrow
      have HR := Lib.hid (own_row (g := bl) (cs := FT (List.replicate k z54) T) hrow ll)
      clear hrow
      have hC7 : k * 7 ≤ (FT xs T).size := by rw [FT_size, hnx]; omega
      have hFin : spl (FT xs T) 0 (FA (List.replicate k z54)) = FT (List.replicate k z54) T := by have q := spl_free xs T; rwa [hnx] at q
      clear hnx
      go_wp2
      go_ret
      exact ⟨_, rfl, HR.out, ⟨by go_simp, by go_simp⟩, ⟨by go_simp, by go_simp⟩, by go_simp⟩
end Go.Proofs.Ytkbaghblchlcnaa.Lr.Wd
namespace Go.Proofs.Ytkbaghblchlcnaa.Lr.Wd
open Go.RowKit Go.Shelf Go.Proofs.YtkbaghblchlcnaaW.PrintWords Go.Proofs.Ytkbaghblchlcnaa.IAll
attribute [local go_sem] Oper.semAt_some cell_row frozen_row isRow_setCell_eq rowAt_setCell_same rowAt_setCell_other isRow_alloc_eq rowAt_alloc rowAt_new rowAt_new' isRow_setRow_eq rowAt_setRow_same rowAt_setRow_other isRow_drew rowAt_drew size_setRow_ Lb_size Lb_at blk_ptr aggOf_agg below_alloc_e below_setCell_e below_setRow_e below_refl_e below_drew_r aside2_alloc_e aside2_setCell_e aside2_setRow_e aside2_drew_e aside2_refl_e aside2_drewN_e isRow_drewN rowAt_drewN below_drewN_e le_add_r offv_ptr one_lad zero_lad allOne_nil allOne_cons Value.oneCell' addr_at FA_size one_FA asideP_alloc_e asideP_setCell_e asideP_setRow_e asideP_drew_e asideP_drewN_e asideP_refl_e in4a in4b in4c in4d
attribute [local go_sem ↓] storeI storeC storeE
attribute [local go_sem] eq2i eq2b eq2u
set_option maxRecDepth 100000 in
set_option maxHeartbeats 4000000 in
theorem does_other (gv lv gr lr : Nat) (V Q C D : Array Value) (d : Int) (A : Option Addr) (k c : Nat) (r : Int) (wr : Bool) (x : Int) (w : World) (h1 : isRow w gv) (h1' : rowAt w gv = V) (h2 : isRow w lv) (h2' : rowAt w lv = D) (h3 : isRow w gr) (h3' : rowAt w gr = Q) (h4 : isRow w lr) (h4' : rowAt w lr = C) (n12 : ¬ gv = lv) (n13 : ¬ gv = gr) (n14 : ¬ gv = lr) (n23 : ¬ lv = gr) (n24 : ¬ lv = lr) (n34 : ¬ gr = lr) (t1 : (d == 1) = false) (t2 : (d == 2) = false) (t3 : (d == 3) = false) :
    Calls Try.prog 34 #[.pointer (some ⟨gv, 0, none⟩), .pointer (some ⟨gr, 0, none⟩), .agg #[.int .i64 d, .slice A k c, .int .i64 r, .bool wr, .int .u64 x]] w fun e w' => e = .returned (.bool true) ∧ Row w' gv V ∧ Row w' lv D ∧ Row w' gr Q ∧ Row w' lr C ∧ AsideP (In4 gv lv gr lr) w w' := by
  have n21 : ¬ lv = gv := fun e => n12 e.symm
  have n31 : ¬ gr = gv := fun e => n13 e.symm
  have n41 : ¬ lr = gv := fun e => n14 e.symm
  have n32 : ¬ gr = lv := fun e => n23 e.symm
  have n42 : ¬ lr = lv := fun e => n24 e.symm
  have n43 : ¬ lr = gr := fun e => n34 e.symm
  have _u : True := by have _ := n21; have _ := n31; have _ := n41; have _ := n32; have _ := n42; have _ := n43; trivial
  clear _u
  have hX : AsideP (In4 gv lv gr lr) w w := .of_below (Below.refl _ _)
  have l1 := h1.lt
  have l2 := h2.lt
  have l3 := h3.lt
  have l4 := h4.lt
  have x1 : ¬ gv = w.heap.size := by omega
  have x2 : ¬ lv = w.heap.size := by omega
  have x3 : ¬ gr = w.heap.size := by omega
  have x4 : ¬ lr = w.heap.size := by omega
  have y1 : ¬ w.heap.size = gv := by omega
  have y2 : ¬ w.heap.size = lv := by omega
  have y3 : ¬ w.heap.size = gr := by omega
  have y4 : ¬ w.heap.size = lr := by omega
  have hB_0 : Below w.heap.size w w := Below.refl _ _
  have ne_VG_X : ¬ gv = w.heap.size := by omega
  have en_VG_X : ¬ w.heap.size = gv := by omega
  have ne_LG_X : ¬ lv = w.heap.size := by omega
  have en_LG_X : ¬ w.heap.size = lv := by omega
  have ne_RG_X : ¬ gr = w.heap.size := by omega
  have en_RG_X : ¬ w.heap.size = gr := by omega
  have ne_LR_X : ¬ lr = w.heap.size := by omega
  have en_LR_X : ¬ w.heap.size = lr := by omega
  go_enter Try.func34, Try.ntmps34
  go_wp2
  go_ret
  exact ⟨rfl, ⟨by go_simp, by go_simp⟩, ⟨by go_simp, by go_simp⟩, ⟨by go_simp, by go_simp⟩, ⟨by go_simp, by go_simp⟩, by go_simp⟩
set_option maxRecDepth 100000 in
set_option maxHeartbeats 4000000 in
theorem does_do (gv lv gr lr : Nat) (V Q C D V' Q' C' D' : Array Value) (A : Option Addr) (k c : Nat) (r : Int) (wr : Bool) (x : Int) (w : World) (h1 : isRow w gv) (h1' : rowAt w gv = V) (h2 : isRow w lv) (h2' : rowAt w lv = D) (h3 : isRow w gr) (h3' : rowAt w gr = Q) (h4 : isRow w lr) (h4' : rowAt w lr = C) (n12 : ¬ gv = lv) (n13 : ¬ gv = gr) (n14 : ¬ gv = lr) (n23 : ¬ lv = gr) (n24 : ¬ lv = lr) (n34 : ¬ gr = lr) (tn tm : Int) (tok tis : Bool) (HV : Hid (∀ W : World, isRow W gv → rowAt W gv = V → isRow W lv → rowAt W lv = D → Calls Try.prog 28 #[.pointer (some ⟨gv, 0, none⟩), .int .i64 r, .bool wr, .int .u64 x] W fun e w' => e = .returned (.tuple #[.int .u64 tn, .agg #[.bool tok, .int .i64 tm], .bool tis]) ∧ Row w' gv V' ∧ Row w' lv D' ∧ Aside2 gv lv W w')) (HR : Hid (∀ W : World, isRow W gr → rowAt W gr = Q → isRow W lr → rowAt W lr = C → Calls Try.prog 64 #[.pointer (some ⟨gr, 0, none⟩), .int .i64 r, .bool wr, .int .u64 x] W fun e w' => e = .returned (.tuple #[.int .u64 tn, .bool tok, .int .i64 tm, .bool tis]) ∧ Row w' gr Q' ∧ Row w' lr C' ∧ Aside2 gr lr W w')) :
    Calls Try.prog 34 #[.pointer (some ⟨gv, 0, none⟩), .pointer (some ⟨gr, 0, none⟩), .agg #[.int .i64 3, .slice A k c, .int .i64 r, .bool wr, .int .u64 x]] w fun e w' => e = .returned (.bool true) ∧ Row w' gv V' ∧ Row w' lv D' ∧ Row w' gr Q' ∧ Row w' lr C' ∧ AsideP (In4 gv lv gr lr) w w' := by
  have n21 : ¬ lv = gv := fun e => n12 e.symm
  have n31 : ¬ gr = gv := fun e => n13 e.symm
  have n41 : ¬ lr = gv := fun e => n14 e.symm
  have n32 : ¬ gr = lv := fun e => n23 e.symm
  have n42 : ¬ lr = lv := fun e => n24 e.symm
  have n43 : ¬ lr = gr := fun e => n34 e.symm
  have _u : True := by have _ := n21; have _ := n31; have _ := n41; have _ := n32; have _ := n42; have _ := n43; trivial
  clear _u
  have hX : AsideP (In4 gv lv gr lr) w w := .of_below (Below.refl _ _)
  have l1 := h1.lt
  have l2 := h2.lt
  have l3 := h3.lt
  have l4 := h4.lt
  have x1 : ¬ gv = w.heap.size := by omega
  have x2 : ¬ lv = w.heap.size := by omega
  have x3 : ¬ gr = w.heap.size := by omega
  have x4 : ¬ lr = w.heap.size := by omega
  have y1 : ¬ w.heap.size = gv := by omega
  have y2 : ¬ w.heap.size = lv := by omega
  have y3 : ¬ w.heap.size = gr := by omega
  have y4 : ¬ w.heap.size = lr := by omega
  have hB_0 : Below w.heap.size w w := Below.refl _ _
  have ne_VG_X : ¬ gv = w.heap.size := by omega
  have en_VG_X : ¬ w.heap.size = gv := by omega
  have ne_LG_X : ¬ lv = w.heap.size := by omega
  have en_LG_X : ¬ w.heap.size = lv := by omega
  have ne_RG_X : ¬ gr = w.heap.size := by omega
  have en_RG_X : ¬ w.heap.size = gr := by omega
  have ne_LR_X : ¬ lr = w.heap.size := by omega
  have en_LR_X : ¬ w.heap.size = lr := by omega
  go_enter Try.func34, Try.ntmps34
  go_wp2_with fail
  refine (HV.out _ (by go_simp) (by go_simp) (by go_simp) (by go_simp)).mono ?_
  rintro e v1 ⟨rfl, ⟨VG_1, VG_1'⟩, ⟨LG_1, LG_1'⟩, hA1⟩
  obtain ⟨RG_1, RG_1'⟩ : Row v1 gr Q := hA1.row ⟨by go_simp, by go_simp⟩ (by omega) (by omega)
  obtain ⟨LR_1, LR_1'⟩ : Row v1 lr C := hA1.row ⟨by go_simp, by go_simp⟩ (by omega) (by omega)
  obtain ⟨X_1, X_1'⟩ : Row v1 w.heap.size #[.int .i64 3, .slice A k c, .int .i64 r, .bool wr, .int .u64 x] := hA1.row ⟨by go_simp, by go_simp⟩ (by omega) (by omega)
  have hB_1 : AsideP (In4 gv lv gr lr) w v1 := AsideP.two (by go_simp) hA1 (by simp [In4]) (by simp [In4])
  clear h1 h1' h2 h2' h3 h3' h4 h4' hX hA1
  have hz_1 : w.heap.size ≤ v1.heap.size := hB_1.size
  have hl_VG_1 := isRow.lt VG_1
  have ne_VG_1_0 : ¬ gv = v1.heap.size := by omega
  have en_VG_1_0 : ¬ v1.heap.size = gv := by omega
  have hl_LG_1 := isRow.lt LG_1
  have ne_LG_1_0 : ¬ lv = v1.heap.size := by omega
  have en_LG_1_0 : ¬ v1.heap.size = lv := by omega
  have hl_RG_1 := isRow.lt RG_1
  have ne_RG_1_0 : ¬ gr = v1.heap.size := by omega
  have en_RG_1_0 : ¬ v1.heap.size = gr := by omega
  have hl_LR_1 := isRow.lt LR_1
  have ne_LR_1_0 : ¬ lr = v1.heap.size := by omega
  have en_LR_1_0 : ¬ v1.heap.size = lr := by omega
  have hl_X_1 := isRow.lt X_1
  have ne_X_1_0 : ¬ w.heap.size = v1.heap.size := by omega
  have en_X_1_0 : ¬ v1.heap.size = w.heap.size := by omega
  have ne_VG_E : ¬ gv = v1.heap.size := by omega
  have en_VG_E : ¬ v1.heap.size = gv := by omega
  have ne_LG_E : ¬ lv = v1.heap.size := by omega
  have en_LG_E : ¬ v1.heap.size = lv := by omega
  have ne_RG_E : ¬ gr = v1.heap.size := by omega
  have en_RG_E : ¬ v1.heap.size = gr := by omega
  have ne_LR_E : ¬ lr = v1.heap.size := by omega
  have en_LR_E : ¬ v1.heap.size = lr := by omega
  have ne_X_E : ¬ w.heap.size = v1.heap.size := by omega
  have en_X_E : ¬ v1.heap.size = w.heap.size := by omega
  go_wp2_with fail
  refine (HR.out _ (by go_simp) (by go_simp) (by go_simp) (by go_simp)).mono ?_
  rintro e v2 ⟨rfl, ⟨RG_2, RG_2'⟩, ⟨LR_2, LR_2'⟩, hA2⟩
  obtain ⟨VG_2, VG_2'⟩ : Row v2 gv V' := hA2.row ⟨by go_simp, by go_simp⟩ (by omega) (by omega)
  obtain ⟨LG_2, LG_2'⟩ : Row v2 lv D' := hA2.row ⟨by go_simp, by go_simp⟩ (by omega) (by omega)
  obtain ⟨X_2, X_2'⟩ : Row v2 w.heap.size #[.int .i64 3, .slice A k c, .int .i64 r, .bool wr, .int .u64 x] := hA2.row ⟨by go_simp, by go_simp⟩ (by omega) (by omega)
  obtain ⟨E_2, E_2'⟩ : Row v2 v1.heap.size #[.bool tok, .int .i64 tm] := hA2.row ⟨by go_simp, by go_simp⟩ (by omega) (by omega)
  have hB_2 : AsideP (In4 gv lv gr lr) w v2 := AsideP.two (by go_simp) hA2 (by simp [In4]) (by simp [In4])
  clear VG_1 VG_1' LG_1 LG_1' RG_1 RG_1' LR_1 LR_1' X_1 X_1' hB_1 hA2
  have hz_2 : w.heap.size ≤ v2.heap.size := hB_2.size
  have hl_VG_2 := isRow.lt VG_2
  have ne_VG_2_0 : ¬ gv = v2.heap.size := by omega
  have en_VG_2_0 : ¬ v2.heap.size = gv := by omega
  have hl_LG_2 := isRow.lt LG_2
  have ne_LG_2_0 : ¬ lv = v2.heap.size := by omega
  have en_LG_2_0 : ¬ v2.heap.size = lv := by omega
  have hl_RG_2 := isRow.lt RG_2
  have ne_RG_2_0 : ¬ gr = v2.heap.size := by omega
  have en_RG_2_0 : ¬ v2.heap.size = gr := by omega
  have hl_LR_2 := isRow.lt LR_2
  have ne_LR_2_0 : ¬ lr = v2.heap.size := by omega
  have en_LR_2_0 : ¬ v2.heap.size = lr := by omega
  have hl_X_2 := isRow.lt X_2
  have ne_X_2_0 : ¬ w.heap.size = v2.heap.size := by omega
  have en_X_2_0 : ¬ v2.heap.size = w.heap.size := by omega
  have hl_E_2 := isRow.lt E_2
  have ne_E_2_0 : ¬ v1.heap.size = v2.heap.size := by omega
  have en_E_2_0 : ¬ v2.heap.size = v1.heap.size := by omega
  go_wp2
  go_ret
  exact ⟨rfl, ⟨by go_simp, by go_simp⟩, ⟨by go_simp, by go_simp⟩, ⟨by go_simp, by go_simp⟩, ⟨by go_simp, by go_simp⟩, by go_simp⟩
end Go.Proofs.Ytkbaghblchlcnaa.Lr.Wd
namespace Go.Proofs.Ytkbaghblchlcnaa.Lr.Wd
open Go.RowKit Go.Shelf Go.Proofs.YtkbaghblchlcnaaW.PrintWords Go.Proofs.Ytkbaghblchlcnaa.IAll
attribute [local go_sem] Oper.semAt_some cell_row frozen_row isRow_setCell_eq rowAt_setCell_same rowAt_setCell_other isRow_alloc_eq rowAt_alloc rowAt_new rowAt_new' isRow_setRow_eq rowAt_setRow_same rowAt_setRow_other isRow_drew rowAt_drew size_setRow_ Lb_size Lb_at blk_ptr aggOf_agg below_alloc_e below_setCell_e below_setRow_e below_refl_e below_drew_r aside2_alloc_e aside2_setCell_e aside2_setRow_e aside2_drew_e aside2_refl_e aside2_drewN_e isRow_drewN rowAt_drewN below_drewN_e le_add_r offv_ptr one_lad zero_lad allOne_nil allOne_cons Value.oneCell' addr_at FA_size one_FA asideP_alloc_e asideP_setCell_e asideP_setRow_e asideP_drew_e asideP_drewN_e asideP_refl_e in4a in4b in4c in4d
attribute [local go_sem ↓] storeI storeC storeE
attribute [local go_sem] eq2i eq2b eq2u
set_option maxRecDepth 100000 in
set_option maxHeartbeats 4000000 in
theorem does_un (gv lv gr lr : Nat) (V Q C D V' Q' C' D' : Array Value) (A : Option Addr) (k c : Nat) (r : Int) (wr : Bool) (x : Int) (w : World) (h1 : isRow w gv) (h1' : rowAt w gv = V) (h2 : isRow w lv) (h2' : rowAt w lv = D) (h3 : isRow w gr) (h3' : rowAt w gr = Q) (h4 : isRow w lr) (h4' : rowAt w lr = C) (n12 : ¬ gv = lv) (n13 : ¬ gv = gr) (n14 : ¬ gv = lr) (n23 : ¬ lv = gr) (n24 : ¬ lv = lr) (n34 : ¬ gr = lr) (ys : List S54) (hy : ys.length ≤ 16) (HV : (Hid (∀ W : World, isRow W gv → rowAt W gv = V → isRow W lv → rowAt W lv = D → Calls Try.prog 27 #[.pointer (some ⟨gv, 0, none⟩)] W fun e w' => ∃ v, e = .returned v ∧ w'.ownsRow W.heap.size 54 7 v ys.length (fl ys) ∧ Row w' gv V' ∧ Row w' lv D' ∧ Aside2 gv lv W w'))) (HR : (Hid (∀ W : World, isRow W gr → rowAt W gr = Q → isRow W lr → rowAt W lr = C → Calls Try.prog 63 #[.pointer (some ⟨gr, 0, none⟩)] W fun e w' => ∃ v, e = .returned v ∧ w'.ownsRow W.heap.size 54 7 v ys.length (fl ys) ∧ Row w' gr Q' ∧ Row w' lr C' ∧ Aside2 gr lr W w'))) :
    Calls Try.prog 34 #[.pointer (some ⟨gv, 0, none⟩), .pointer (some ⟨gr, 0, none⟩), .agg #[.int .i64 2, .slice A k c, .int .i64 r, .bool wr, .int .u64 x]] w fun e w' => e = .returned (.bool true) ∧ Row w' gv V' ∧ Row w' lv D' ∧ Row w' gr Q' ∧ Row w' lr C' ∧ AsideP (In4 gv lv gr lr) w w' := by
  have n21 : ¬ lv = gv := fun e => n12 e.symm
  have n31 : ¬ gr = gv := fun e => n13 e.symm
  have n41 : ¬ lr = gv := fun e => n14 e.symm
  have n32 : ¬ gr = lv := fun e => n23 e.symm
  have n42 : ¬ lr = lv := fun e => n24 e.symm
  have n43 : ¬ lr = gr := fun e => n34 e.symm
  have _u : True := by have _ := n21; have _ := n31; have _ := n41; have _ := n32; have _ := n42; have _ := n43; trivial
  clear _u
  have hX : AsideP (In4 gv lv gr lr) w w := .of_below (Below.refl _ _)
  have l1 := h1.lt
  have l2 := h2.lt
  have l3 := h3.lt
  have l4 := h4.lt
  have x1 : ¬ gv = w.heap.size := by omega
  have x2 : ¬ lv = w.heap.size := by omega
  have x3 : ¬ gr = w.heap.size := by omega
  have x4 : ¬ lr = w.heap.size := by omega
  have y1 : ¬ w.heap.size = gv := by omega
  have y2 : ¬ w.heap.size = lv := by omega
  have y3 : ¬ w.heap.size = gr := by omega
  have y4 : ¬ w.heap.size = lr := by omega
  have hB_0 : Below w.heap.size w w := Below.refl _ _
  have ne_VG_X : ¬ gv = w.heap.size := by omega
  have en_VG_X : ¬ w.heap.size = gv := by omega
  have ne_LG_X : ¬ lv = w.heap.size := by omega
  have en_LG_X : ¬ w.heap.size = lv := by omega
  have ne_RG_X : ¬ gr = w.heap.size := by omega
  have en_RG_X : ¬ w.heap.size = gr := by omega
  have ne_LR_X : ¬ lr = w.heap.size := by omega
  have en_LR_X : ¬ w.heap.size = lr := by omega
  go_enter Try.func34, Try.ntmps34
  go_wp2_with fail
  refine (HV.out _ (by go_simp) (by go_simp) (by go_simp) (by go_simp)).mono ?_
  rintro e v1 ⟨u, rfl, hown, ⟨VG_1, VG_1'⟩, ⟨LG_1, LG_1'⟩, hA1⟩
  have hsz1 : (w.alloc (.cells #[.int .i64 2, .slice A k c, .int .i64 r, .bool wr, .int .u64 x] 80)).heap.size = w.heap.size + 1 := by simp
  obtain ⟨RG_1, RG_1'⟩ : Row v1 gr Q := hA1.row ⟨by go_simp, by go_simp⟩ (by omega) (by omega)
  obtain ⟨LR_1, LR_1'⟩ : Row v1 lr C := hA1.row ⟨by go_simp, by go_simp⟩ (by omega) (by omega)
  have hF1 : AsideP (In4 gv lv gr lr) w v1 := AsideP.two (by go_simp) hA1 (by simp [In4]) (by simp [In4])
  rw [hsz1] at hown
  obtain ⟨A1, c1, rfl, hc1, hC1⟩ := own_reads hown (by omega)
  clear h1 h1' h2 h2' h3 h3' h4 h4' hX hA1 hsz1
  have HO := Lib.hid hown
  clear hown hC1
  go_wp2_with fail
  refine (HR.out _ (by go_simp) (by go_simp) (by go_simp) (by go_simp)).mono ?_
  rintro e v2 ⟨u2, rfl, hown2, ⟨RG_2, RG_2'⟩, ⟨LR_2, LR_2'⟩, hA2⟩
  obtain ⟨VG_2, VG_2'⟩ : Row v2 gv V' := hA2.row ⟨VG_1, VG_1'⟩ (by omega) (by omega)
  obtain ⟨LG_2, LG_2'⟩ : Row v2 lv D' := hA2.row ⟨LG_1, LG_1'⟩ (by omega) (by omega)
  have hF2 : AsideP (In4 gv lv gr lr) w v2 := AsideP.two hF1 hA2 (by simp [In4]) (by simp [In4])
  have ho1 := aside2_own HO.out hA2 (by omega) (by omega)
  obtain ⟨A1b, c1b, he, hc1b, hC1b⟩ := own_reads ho1 (by omega)
  obtain ⟨rfl, rfl⟩ : A1 = A1b ∧ c1 = c1b := by injection he with a1 a2 a3; exact ⟨a1, a3⟩
  obtain ⟨A2, c2, rfl, hc2, hC2⟩ := own_reads hown2 (by omega)
  clear VG_1 VG_1' LG_1 LG_1' RG_1 RG_1' LR_1 LR_1' hF1 hA2 he
  have HC1 := Lib.hid hC1b
  have HC2 := Lib.hid hC2
  clear hC1b hC2 ho1 hown2
  go_wp2_with fail
  refine (crierlaw21_same.calls (ys.length + 1) A1 c1 ys A2 c2 ys true _ HC1.out hc1b HC2.out hc2 (same_is ys (by omega))).mono ?_
  rintro e v3 ⟨rfl, hd3⟩
  have hb3 := below_drawn0 hd3
  obtain ⟨VG_3, VG_3'⟩ := Row.step VG_2 VG_2' hb3
  obtain ⟨LG_3, LG_3'⟩ := Row.step LG_2 LG_2' hb3
  obtain ⟨RG_3, RG_3'⟩ := Row.step RG_2 RG_2' hb3
  obtain ⟨LR_3, LR_3'⟩ := Row.step LR_2 LR_2' hb3
  have hF3 := hF2.low hb3
  clear VG_2 VG_2' LG_2 LG_2' RG_2 RG_2' LR_2 LR_2' hF2 hb3 hd3
  go_wp2
  go_ret
  exact ⟨rfl, ⟨VG_3, VG_3'⟩, ⟨LG_3, LG_3'⟩, ⟨RG_3, RG_3'⟩, ⟨LR_3, LR_3'⟩, hF3⟩
end Go.Proofs.Ytkbaghblchlcnaa.Lr.Wd
namespace Go.Proofs.Ytkbaghblchlcnaa.Lr.Wd
open Go.RowKit Go.Shelf Go.Proofs.YtkbaghblchlcnaaW.PrintWords Go.Proofs.Ytkbaghblchlcnaa.IAll
attribute [local go_sem] Oper.semAt_some cell_row frozen_row isRow_setCell_eq rowAt_setCell_same rowAt_setCell_other isRow_alloc_eq rowAt_alloc rowAt_new rowAt_new' isRow_setRow_eq rowAt_setRow_same rowAt_setRow_other isRow_drew rowAt_drew size_setRow_ Lb_size Lb_at blk_ptr aggOf_agg below_alloc_e below_setCell_e below_setRow_e below_refl_e below_drew_r aside2_alloc_e aside2_setCell_e aside2_setRow_e aside2_drew_e aside2_refl_e aside2_drewN_e isRow_drewN rowAt_drewN below_drewN_e le_add_r offv_ptr one_lad zero_lad allOne_nil allOne_cons Value.oneCell' addr_at FA_size one_FA asideP_alloc_e asideP_setCell_e asideP_setRow_e asideP_drew_e asideP_drewN_e asideP_refl_e in4a in4b in4c in4d
attribute [local go_sem ↓] storeI storeC storeE storeLm
attribute [local go_sem] eq2i eq2b eq2u
set_option maxRecDepth 100000 in
set_option maxHeartbeats 4000000 in
theorem does_ld (gv lv gr lr : Nat) (V Q C D V' Q' C' D' : Array Value) (A : Option Addr) (c : Nat) (r : Int) (wr : Bool) (x : Int) (w : World) (h1 : isRow w gv) (h1' : rowAt w gv = V) (h2 : isRow w lv) (h2' : rowAt w lv = D) (h3 : isRow w gr) (h3' : rowAt w gr = Q) (h4 : isRow w lr) (h4' : rowAt w lr = C) (n12 : ¬ gv = lv) (n13 : ¬ gv = gr) (n14 : ¬ gv = lr) (n23 : ¬ lv = gr) (n24 : ¬ lv = lr) (n34 : ¬ gr = lr) (ls : List S54) (hC : Kd.C k54 w A ls.length ls) (hbig : ls.length * 56 ≤ 140737488351232) (hA : ∀ ad, A = some ad → 0 < ls.length → ad.block < w.heap.size ∧ ¬ In4 gv lv gr lr ad.block) (en : Int)
    (HV : Hid (∀ (W : World) (A' : Option Addr) (c' : Nat), Kd.C k54 W A' ls.length ls → ls.length ≤ c' → (∀ ad, A' = some ad → 0 < ls.length → ad.block < W.heap.size ∧ ad.block ≠ lv) → isRow W gv → rowAt W gv = V → isRow W lv → rowAt W lv = D → Calls Try.prog 16 #[.pointer (some ⟨gv, 0, none⟩), .slice A' ls.length c'] W fun e w' => e = .returned (.int .i64 en) ∧ Row w' gv V' ∧ Row w' lv D' ∧ Aside2 gv lv W w'))
    (HR : Hid (∀ (W : World), Kd.C k54 W A ls.length ls → (∀ ad, A = some ad → 0 < ls.length → ad.block < W.heap.size ∧ ad.block ≠ lr ∧ ad.block ≠ gr) → isRow W gr → rowAt W gr = Q → isRow W lr → rowAt W lr = C → Calls Try.prog 62 #[.pointer (some ⟨gr, 0, none⟩), .slice A ls.length c] W fun e w' => e = .returned (.int .i64 en) ∧ Row w' gr Q' ∧ Row w' lr C' ∧ Aside2 gr lr W w')) :
    Calls Try.prog 34 #[.pointer (some ⟨gv, 0, none⟩), .pointer (some ⟨gr, 0, none⟩), .agg #[.int .i64 1, .slice A ls.length c, .int .i64 r, .bool wr, .int .u64 x]] w fun e w' => e = .returned (.bool true) ∧ Row w' gv V' ∧ Row w' lv D' ∧ Row w' gr Q' ∧ Row w' lr C' ∧ AsideP (In4 gv lv gr lr) w w' := by
  have HC := Lib.hid hC
  have HA := Lib.hid hA
  clear hC hA
  have n21 : ¬ lv = gv := fun e => n12 e.symm
  have n31 : ¬ gr = gv := fun e => n13 e.symm
  have n41 : ¬ lr = gv := fun e => n14 e.symm
  have n32 : ¬ gr = lv := fun e => n23 e.symm
  have n42 : ¬ lr = lv := fun e => n24 e.symm
  have n43 : ¬ lr = gr := fun e => n34 e.symm
  have _u : True := by have _ := n21; have _ := n31; have _ := n41; have _ := n32; have _ := n42; have _ := n43; trivial
  clear _u
  have hX : AsideP (In4 gv lv gr lr) w w := .of_below (Below.refl _ _)
  have l1 := h1.lt
  have l2 := h2.lt
  have l3 := h3.lt
  have l4 := h4.lt
  have x1 : ¬ gv = w.heap.size := by omega
  have x2 : ¬ lv = w.heap.size := by omega
  have x3 : ¬ gr = w.heap.size := by omega
  have x4 : ¬ lr = w.heap.size := by omega
  have y1 : ¬ w.heap.size = gv := by omega
  have y2 : ¬ w.heap.size = lv := by omega
  have y3 : ¬ w.heap.size = gr := by omega
  have y4 : ¬ w.heap.size = lr := by omega
  have hB_0 : Below w.heap.size w w := Below.refl _ _
  have ne_VG_X : ¬ gv = w.heap.size := by omega
  have en_VG_X : ¬ w.heap.size = gv := by omega
  have ne_LG_X : ¬ lv = w.heap.size := by omega
  have en_LG_X : ¬ w.heap.size = lv := by omega
  have ne_RG_X : ¬ gr = w.heap.size := by omega
  have en_RG_X : ¬ w.heap.size = gr := by omega
  have ne_LR_X : ¬ lr = w.heap.size := by omega
  have en_LR_X : ¬ w.heap.size = lr := by omega
  go_enter Try.func34, Try.ntmps34
  have hW : Kd.C k54 (w.alloc (.cells #[.int .i64 1, .slice A ls.length c, .int .i64 r, .bool wr, .int .u64 x] 80)) A ls.length ls := Kd.C_below HC.out ((Below.refl _ w).alloc (Nat.le_refl _) _)
  have HW := Lib.hid hW
  clear hW
  go_wp2_with (at_builtin; refine Kd.R_append_rows k54 (Rr := k54.K (w.alloc (.cells #[.int .i64 1, .slice A ls.length c, .int .i64 r, .bool wr, .int .u64 x] 80))) (w0 := w.alloc (.cells #[.int .i64 1, .slice A ls.length c, .int .i64 r, .bool wr, .int .u64 x] 80)) (w.heap.size + 1) rfl _ _ 22 54 (.agg (enc z54)) 56 rfl Try.underlying22 infoL4 rfl (by decide) (by decide) _ ([] : List S54) ls A ls.length c (fun _ => True) (fun _ => False) rfl rfl (Kd.R_nil _ _ _ _ _) HW.out (fun p cs hp => by rw [k54_open hp]; exact k54_mkM _ _ _ _) (fun _ h => h.elim) (fun _ _ => trivial) (Below.refl _ _) (by simp) (by simp; omega) ?_; intro v1 w1 hR1 hB1 _ _; rw [List.nil_append] at hR1; obtain ⟨-, inner, hown, hreps⟩ := hR1; obtain ⟨A1, c1, rfl, hc1, hO1⟩ := own_parts hown; obtain ⟨A1b, c1b, he, hc1b, hC1⟩ := Kd.R_reads (⟨fun _ _ => trivial, inner, hown, hreps⟩ : k54.R 54 w1 (w.heap.size + 1) (fun _ => True) _ _); obtain ⟨rfl, rfl⟩ : A1 = A1b ∧ c1 = c1b := (by injection he with a1 a2 a3; exact ⟨a1, a3⟩); have hb0 : Below w.heap.size w w1 := ((Below.refl _ w).alloc (Nat.le_refl _) _).trans (hB1.mono (by omega)); have hF1 : AsideP (In4 gv lv gr lr) w w1 := .of_below hb0; obtain ⟨VG_1, VG_1'⟩ : Row w1 gv V := row_lo ⟨h1, h1'⟩ hb0 l1; obtain ⟨LG_1, LG_1'⟩ : Row w1 lv D := row_lo ⟨h2, h2'⟩ hb0 l2; obtain ⟨RG_1, RG_1'⟩ : Row w1 gr Q := row_lo ⟨h3, h3'⟩ hb0 l3; obtain ⟨LR_1, LR_1'⟩ : Row w1 lr C := row_lo ⟨h4, h4'⟩ hb0 l4; obtain ⟨X_1, X_1'⟩ : Row w1 w.heap.size #[.int .i64 1, .slice A ls.length c, .int .i64 r, .bool wr, .int .u64 x] := row_lo ⟨by go_simp, by go_simp⟩ hB1 (by omega); have HO1 := Lib.hid hO1; have HC1 := Lib.hid hC1; clear hown hreps hO1 hC1 he hc1b h1 h1' h2 h2' h3 h3' h4 h4' hX hB1 hb0)
  have hz1 : w.heap.size + 1 ≤ w1.heap.size := X_1.lt
  refine (HV.out _ A1 c1 HC1.out hc1 (fun ad e hn => by
    obtain ⟨ob, e2, hb, o1, -⟩ := HO1.out hn
    rw [e] at e2
    obtain rfl := Option.some.inj e2
    exact ⟨o1.lt, by simp only; omega⟩) VG_1 VG_1' LG_1 LG_1').mono ?_
  rintro e v2 ⟨rfl, ⟨VG_2, VG_2'⟩, ⟨LG_2, LG_2'⟩, hA2⟩
  obtain ⟨RG_2, RG_2'⟩ : Row v2 gr Q := hA2.row ⟨RG_1, RG_1'⟩ (by omega) (by omega)
  obtain ⟨LR_2, LR_2'⟩ : Row v2 lr C := hA2.row ⟨LR_1, LR_1'⟩ (by omega) (by omega)
  obtain ⟨X_2, X_2'⟩ : Row v2 w.heap.size #[.int .i64 1, .slice A ls.length c, .int .i64 r, .bool wr, .int .u64 x] := hA2.row ⟨X_1, X_1'⟩ (by omega) (by omega)
  have hF2 : AsideP (In4 gv lv gr lr) w v2 := AsideP.two hF1 hA2 (by simp [In4]) (by simp [In4])
  have hO2 := Lib.hid (HO1.out.aside2 hA2 (by omega) (by omega))
  clear VG_1 VG_1' LG_1 LG_1' RG_1 RG_1' LR_1 LR_1' X_1 X_1' hF1 hA2 HO1 HC1
  go_wp2_with fail
  go_loopw [9] (fun i wq => ∃ k : Nat, k ≤ ls.length ∧ i = .int .i64 k ∧ Hid (OwnAt A1 ls.length (c1 * 7) (w.heap.size + 1) wq) ∧ Row wq gv V' ∧ Row wq lv D' ∧ Row wq gr Q ∧ Row wq lr C ∧ Row wq w.heap.size #[.int .i64 1, .slice A ls.length c, .int .i64 r, .bool wr, .int .u64 x] ∧ AsideP (In4 gv lv gr lr) w wq) (fun i _ => ls.length - (intOf i).toNat)
  case atStart => exact ⟨0, by omega, rfl, hO2, ⟨VG_2, VG_2'⟩, ⟨LG_2, LG_2'⟩, ⟨RG_2, RG_2'⟩, ⟨LR_2, LR_2'⟩, ⟨X_2, X_2'⟩, hF2⟩
  case round =>
    clear VG_2 VG_2' LG_2 LG_2' RG_2 RG_2' LR_2 LR_2' X_2 X_2' hF2 hO2
    obtain ⟨k, hk, rfl, hO, ⟨G1, G1'⟩, ⟨G2, G2'⟩, ⟨G3, G3'⟩, ⟨G4, G4'⟩, ⟨X1, X1'⟩, hF⟩ := hrel
    by_cases hkn : k < ls.length
    · have k1 : (0 : Int) ≤ (k : Int) := by omega
      have k2 : (k : Int) < (ls.length : Int) := by omega
      obtain ⟨ob, hob, hbo, o1, o2⟩ := hO.out (by omega)
      have hfit : k * 7 + 7 ≤ c1 * 7 := by omega
      have b1 : ¬ ob = gv := by omega
      have b2 : ¬ ob = lv := by omega
      have b3 : ¬ ob = gr := by omega
      have b4 : ¬ ob = lr := by omega
      have b5 : ¬ ob = w.heap.size := by omega
      have b6 : ¬ gv = ob := by omega
      have b7 : ¬ lv = ob := by omega
      have b8 : ¬ gr = ob := by omega
      have b9 : ¬ lr = ob := by omega
      have b0 : ¬ w.heap.size = ob := by omega
      have bw : w.heap.size ≤ ob := by omega
      have hO' : OwnAt A1 ls.length (c1 * 7) (w.heap.size + 1) (wr.setRow ob (spl (rowAt wr ob) (k * 7) #[.int .i64 3, .int .i64 0, .int .i64 0, .int .i64 0, .bool false, .int .i64 0, .bool false])) := fun _ => ⟨ob, hob, hbo, isRow_setRow o1, by rw [rowAt_setRow_same o1, spl_size (by rw [o2]; exact hfit), o2]⟩
      have HO' := Lib.hid hO'
      clear hO' hO
      subst hob
      go_wp2
      go_roundw
      case rel => exact ⟨k + 1, by omega, by go_num, HO', ⟨by go_simp, by go_simp⟩, ⟨by go_simp, by go_simp⟩, ⟨by go_simp, by go_simp⟩, ⟨by go_simp, by go_simp⟩, ⟨by go_simp, by go_simp⟩, by go_simp⟩
      case measure => simp [intOf]; omega
    · have hkn' : k = ls.length := by omega
      go_wp2_with fail
      refine (HR.out _ (cfar_p HC.out hF HA.out) (fun ad e hn => by
        obtain ⟨q1, q2⟩ := HA.out ad e hn
        exact ⟨Nat.lt_of_lt_of_le q1 hF.size, fun h => q2 (h ▸ in4d), fun h => q2 (h ▸ in4c)⟩) G3 G3' G4 G4').mono ?_
      rintro e v3 ⟨rfl, ⟨RG_3, RG_3'⟩, ⟨LR_3, LR_3'⟩, hA3⟩
      obtain ⟨VG_3, VG_3'⟩ : Row v3 gv V' := hA3.row ⟨G1, G1'⟩ (by omega) (by omega)
      obtain ⟨LG_3, LG_3'⟩ : Row v3 lv D' := hA3.row ⟨G2, G2'⟩ (by omega) (by omega)
      have hF3 : AsideP (In4 gv lv gr lr) w v3 := AsideP.two hF hA3 (by simp [In4]) (by simp [In4])
      clear G1 G1' G2 G2' G3 G3' G4 G4' X1 X1' hF hA3 hkn'
      go_wp2
      go_ret
      exact ⟨rfl, ⟨VG_3, VG_3'⟩, ⟨LG_3, LG_3'⟩, ⟨RG_3, RG_3'⟩, ⟨LR_3, LR_3'⟩, hF3⟩
end Go.Proofs.Ytkbaghblchlcnaa.Lr.Wd
namespace Go.Proofs.Ytkbaghblchlcnaa.Lr.Wd
open Go.RowKit Go.Shelf Go.Proofs.YtkbaghblchlcnaaW.PrintWords Go.Proofs.Ytkbaghblchlcnaa.IAll
section
variable (n g bl cc : Nat) (T : Array Value) (s : VS) (h : SOk n s) (hne : ¬ g = bl) (w : World) (hl : isRow w bl) (hl' : rowAt w bl = FT s.xs T) (A : Option Addr) (c : Nat) (ls : List S54) (hC : Kd.C k54 w A ls.length ls) (hc : ls.length ≤ c)
include h hne hl hl' hC hc
theorem vload_c (hA : ∀ ad, A = some ad → 0 < ls.length → ad.block < w.heap.size ∧ ad.block ≠ bl) (hr : isRow w g) (hr' : rowAt w g = vrow n cc bl s) :
    Calls Try.prog 16 #[.pointer (some ⟨g, 0, none⟩), .slice A ls.length c] w fun e w' => e = .returned (.int .i64 (loadN n ls)) ∧ Row w' g (vrow n cc bl (loadS n s ls)) ∧ Row w' bl (FT (loadS n s ls).xs T) ∧ Aside2 g bl w w' := by
  obtain ⟨rfl, h16, h0, hst, hlo, hhi⟩ := h
  have hne' : ¬ bl = g := fun e => hne e.symm
  obtain ⟨m, p0, p1, o0, o1, sp, a, b, xs, lost⟩ := s
  have h16' : xs.length ≤ 16 := h16
  unfold loadS loadN loadXs
  unfold vrow at hr' ⊢
  by_cases hlt : xs.length < ls.length
  · simp only [if_pos hlt]
    exact load_big g bl m p0 p1 o0 o1 sp a b xs.length cc (FT xs T) lost A c ls w hr hr' hl hl' hne hne' hlt
  · simp only [if_neg hlt]
    by_cases hg : goodL ls
    · simp only [if_pos hg]
      have q := load_ok g bl m p0 p1 o0 o1 sp a b xs.length cc (FT xs T) lost A c ls w hr hr' hl hl' hne hne' hlt (Lib.hid hC) (Lib.hid (fun W hW => lr_Right.calls 400 A c ls 0 W hW hc (lright_good ls (by omega) hg))) (by rw [FT_size]; omega) h0 hA
      rw [spl_load xs ls T (by omega)] at q
      exact q
    · simp only [if_neg hg]
      exact load_bad g bl m p0 p1 o0 o1 sp a b xs.length cc (FT xs T) lost A c ls w hr hr' hl hl' hne hne' hlt (Lib.hid hC) (Lib.hid (fun W hW => lr_Right.calls 400 A c ls 200 W hW hc (lright_bad ls (by omega) hg)))
end
theorem vunload_c (n g bl cc : Nat) (T : Array Value) (s : VS) (h : SOk n s) (hne : ¬ g = bl) (w : World) (hl : isRow w bl) (hl' : rowAt w bl = FT s.xs T) (hr : isRow w g) (hr' : rowAt w g = vrow n cc bl s) :
    Calls Try.prog 27 #[.pointer (some ⟨g, 0, none⟩)] w fun e w' => ∃ v, e = .returned v ∧ w'.ownsRow w.heap.size 54 7 v (nf s.xs).length (fl (nf s.xs)) ∧ Row w' g (vrow n cc bl (freeS n s)) ∧ Row w' bl (FT (freeS n s).xs T) ∧ Aside2 g bl w w' := by
  obtain ⟨rfl, h16, h0, hst, hlo, hhi⟩ := h
  exact unload_c g bl s.m s.p0 s.p1 s.o0 s.o1 s.sp s.a s.b s.xs.length cc T s.lost s.xs h0 w hr hr' hl hl' hne (fun e => hne e.symm) (Lib.hid rfl) h16
theorem does_c (n cc : Nat) (T : Array Value) (gv lv gr lr : Nat) (s : VS) (h : SOk n s) (d : Int) (A : Option Addr) (c : Nat) (ls : List S54) (r : Int) (wr : Bool) (x : Int) (hx0 : 0 ≤ x) (hx1 : x ≤ 18446744073709551615) (w : World)
    (h1 : isRow w gv) (h1' : rowAt w gv = vrow n cc lv s) (h2 : isRow w lv) (h2' : rowAt w lv = FT s.xs T) (h3 : isRow w gr) (h3' : rowAt w gr = rrow n lr s) (h4 : isRow w lr) (h4' : rowAt w lr = FA s.xs)
    (n12 : ¬ gv = lv) (n13 : ¬ gv = gr) (n14 : ¬ gv = lr) (n23 : ¬ lv = gr) (n24 : ¬ lv = lr) (n34 : ¬ gr = lr)
    (hC : Kd.C k54 w A ls.length ls) (hc : ls.length ≤ c) (hbig : ls.length * 56 ≤ 140737488351232) (hA : ∀ ad, A = some ad → 0 < ls.length → ad.block < w.heap.size ∧ ¬ In4 gv lv gr lr ad.block) :
    Calls Try.prog 34 #[.pointer (some ⟨gv, 0, none⟩), .pointer (some ⟨gr, 0, none⟩), .agg #[.int .i64 d, .slice A ls.length c, .int .i64 r, .bool wr, .int .u64 x]] w fun e w' => e = .returned (.bool true) ∧
      Row w' gv (vrow n cc lv (actS n s d ls r wr x)) ∧ Row w' lv (FT (actS n s d ls r wr x).xs T) ∧ Row w' gr (rrow n lr (actS n s d ls r wr x)) ∧ Row w' lr (FA (actS n s d ls r wr x).xs) ∧ AsideP (In4 gv lv gr lr) w w' := by
  have h16 := h.n16
  have hlen := h.len
  unfold actS
  by_cases d1 : d = 1
  · subst d1; rw [if_pos rfl]
    exact does_ld gv lv gr lr _ _ _ _ _ _ _ _ A c r wr x w h1 h1' h2 h2' h3 h3' h4 h4' n12 n13 n14 n23 n24 n34 ls hC hbig hA (loadN n ls)
      (Lib.hid (fun W A' c' q1 q2 q3 q4 q5 q6 q7 => vload_c n gv lv cc T s h n12 W q6 q7 A' c' ls q1 q2 q3 q4 q5))
      (Lib.hid (fun W q1 q3 q4 q5 q6 q7 => rload_c n gr lr s h n34 W q6 q7 A c ls q1 hc q3 q4 q5))
  rw [if_neg d1]
  by_cases d2 : d = 2
  · subst d2; rw [if_pos rfl]
    exact does_un gv lv gr lr _ _ _ _ _ _ _ _ A ls.length c r wr x w h1 h1' h2 h2' h3 h3' h4 h4' n12 n13 n14 n23 n24 n34 (nf s.xs) (by have := nf_length s.xs; omega)
      (Lib.hid (fun W q4 q5 q6 q7 => vunload_c n gv lv cc T s h n12 W q6 q7 q4 q5))
      (Lib.hid (fun W q4 q5 q6 q7 => runload'_c n gr lr s h n34 W q6 q7 q4 q5))
  rw [if_neg d2]
  by_cases d3 : d = 3
  · subst d3; rw [if_pos rfl]
    exact does_do gv lv gr lr _ _ _ _ _ _ _ _ A ls.length c r wr x w h1 h1' h2 h2' h3 h3' h4 h4' n12 n13 n14 n23 n24 n34 _ _ _ _
      (Lib.hid (fun W q4 q5 q6 q7 => vdo_c n gv lv cc T s h n12 W q6 q7 q4 q5 r wr x))
      (Lib.hid (fun W q4 q5 q6 q7 => rdo_c n gr lr s h n34 W q6 q7 q4 q5 r wr x hx0 hx1))
  rw [if_neg d3]
  exact does_other gv lv gr lr _ _ _ _ d A ls.length c r wr x w h1 h1' h2 h2' h3 h3' h4 h4' n12 n13 n14 n23 n24 n34 (nbeq d1) (nbeq d2) (nbeq d3)
end Go.Proofs.Ytkbaghblchlcnaa.Lr.Wd
namespace Go.Proofs.Ytkbaghblchlcnaa.Lr.Wd
open Go.RowKit Go.Shelf Go.Proofs.YtkbaghblchlcnaaW.PrintWords Go.Proofs.Ytkbaghblchlcnaa.IAll
attribute [local go_sem] Oper.semAt_some cell_row frozen_row isRow_setCell_eq rowAt_setCell_same rowAt_setCell_other isRow_alloc_eq rowAt_alloc rowAt_new rowAt_new' isRow_setRow_eq rowAt_setRow_same rowAt_setRow_other isRow_drew rowAt_drew size_setRow_ Lb_size Lb_at blk_ptr aggOf_agg below_alloc_e below_setCell_e below_setRow_e below_refl_e below_drew_r aside2_alloc_e aside2_setCell_e aside2_setRow_e aside2_drew_e aside2_refl_e aside2_drewN_e isRow_drewN rowAt_drewN below_drewN_e le_add_r offv_ptr one_lad zero_lad allOne_nil allOne_cons Value.oneCell' addr_at FA_size one_FA
attribute [local go_sem ↓] storeI storeC
attribute [local go_sem] eq2i eq2b eq2u
set_option maxRecDepth 100000 in
set_option maxHeartbeats 4000000 in
theorem asks0_c (g bl : Nat) (m p0 p1 : Int) (o0 o1 sp : Bool) (a b : Int) (n cc : Nat) (T : Array Value) (xs : List S54) (hn : xs.length = n) (h16 : n ≤ 16) (hcc : n ≤ cc) (lost : Int) (w : World) (hr : isRow w g) (hr' : rowAt w g = #[.int .i64 m, .int .i64 p0, .int .i64 p1, .bool o0, .bool o1, .bool sp, .int .u32 a, .int .u32 b, .slice (some ⟨bl, 0, none⟩) n cc, .int .i64 lost]) (hl : isRow w bl) (hl' : rowAt w bl = FT xs T) (hne : ¬ g = bl) : Calls Try.prog 26 #[.pointer (some ⟨g, 0, none⟩), .int .i64 0] w fun e w' => e = .returned (.bool (asks xs lost 0)) ∧ Below w.heap.size w w' := by
  subst hn
  have hne' : ¬ bl = g := fun e => hne e.symm
  have hC : Kd.C k54 w (some ⟨bl, 0, none⟩) xs.length xs := ft_kd hl hl' (by omega)
  have HC := Lib.hid hC
  clear hC
  have hB := Below.refl w.heap.size w
  go_enter Try.func26, Try.ntmps26
  go_wp2_with fail
  refine (Done_c _ _ _ _).mono ?_
  rintro e v1 ⟨rfl, rfl⟩
  go_wp2_with fail
  refine (lr_Bits_Done.calls _ _ xs _ w HC.out hcc (by unfold lr_Bits_Done.f; rw [if_pos (by omega)])).mono ?_
  rintro e v2 ⟨rfl, hb2⟩
  go_wp2
  go_ret
  exact ⟨rfl, hb2⟩
set_option maxRecDepth 100000 in
set_option maxHeartbeats 4000000 in
theorem asks1_c (g bl : Nat) (m p0 p1 : Int) (o0 o1 sp : Bool) (a b : Int) (n cc : Nat) (T : Array Value) (xs : List S54) (hn : xs.length = n) (h16 : n ≤ 16) (hcc : n ≤ cc) (lost : Int) (w : World) (hr : isRow w g) (hr' : rowAt w g = #[.int .i64 m, .int .i64 p0, .int .i64 p1, .bool o0, .bool o1, .bool sp, .int .u32 a, .int .u32 b, .slice (some ⟨bl, 0, none⟩) n cc, .int .i64 lost]) (hl : isRow w bl) (hl' : rowAt w bl = FT xs T) (hne : ¬ g = bl) : Calls Try.prog 26 #[.pointer (some ⟨g, 0, none⟩), .int .i64 1] w fun e w' => e = .returned (.bool (asks xs lost 1)) ∧ Below w.heap.size w w' := by
  subst hn
  have hne' : ¬ bl = g := fun e => hne e.symm
  have hC : Kd.C k54 w (some ⟨bl, 0, none⟩) xs.length xs := ft_kd hl hl' (by omega)
  have HC := Lib.hid hC
  clear hC
  have hB := Below.refl w.heap.size w
  go_enter Try.func26, Try.ntmps26
  go_wp2_with fail
  refine (lr_Used.calls _ _ xs _ w HC.out hcc (by unfold lr_Used.f; rw [if_pos (by omega)])).mono ?_
  rintro e v2 ⟨rfl, hb2⟩
  go_wp2
  go_ret
  exact ⟨rfl, hb2⟩
set_option maxRecDepth 100000 in
set_option maxHeartbeats 4000000 in
theorem asks2_c (g bl : Nat) (m p0 p1 : Int) (o0 o1 sp : Bool) (a b : Int) (n cc : Nat) (T : Array Value) (xs : List S54) (hn : xs.length = n) (h16 : n ≤ 16) (hcc : n ≤ cc) (lost : Int) (w : World) (hr : isRow w g) (hr' : rowAt w g = #[.int .i64 m, .int .i64 p0, .int .i64 p1, .bool o0, .bool o1, .bool sp, .int .u32 a, .int .u32 b, .slice (some ⟨bl, 0, none⟩) n cc, .int .i64 lost]) (hl : isRow w bl) (hl' : rowAt w bl = FT xs T) (hne : ¬ g = bl) : Calls Try.prog 26 #[.pointer (some ⟨g, 0, none⟩), .int .i64 2] w fun e w' => e = .returned (.bool (asks xs lost 2)) ∧ Below w.heap.size w w' := by
  subst hn
  have hne' : ¬ bl = g := fun e => hne e.symm
  have hC : Kd.C k54 w (some ⟨bl, 0, none⟩) xs.length xs := ft_kd hl hl' (by omega)
  have HC := Lib.hid hC
  clear hC
  have hB := Below.refl w.heap.size w
  have _u := hcc
  clear _u hcc h16
  go_enter Try.func26, Try.ntmps26
  go_wp2
  go_ret
  exact ⟨rfl, hB⟩
set_option maxRecDepth 100000 in
set_option maxHeartbeats 4000000 in
theorem asks3_c (g bl : Nat) (m p0 p1 : Int) (o0 o1 sp : Bool) (a b : Int) (n cc : Nat) (T : Array Value) (xs : List S54) (hn : xs.length = n) (h16 : n ≤ 16) (hcc : n ≤ cc) (lost : Int) (w : World) (hr : isRow w g) (hr' : rowAt w g = #[.int .i64 m, .int .i64 p0, .int .i64 p1, .bool o0, .bool o1, .bool sp, .int .u32 a, .int .u32 b, .slice (some ⟨bl, 0, none⟩) n cc, .int .i64 lost]) (hl : isRow w bl) (hl' : rowAt w bl = FT xs T) (hne : ¬ g = bl) : Calls Try.prog 26 #[.pointer (some ⟨g, 0, none⟩), .int .i64 3] w fun e w' => e = .returned (.bool (asks xs lost 3)) ∧ Below w.heap.size w w' := by
  subst hn
  have hne' : ¬ bl = g := fun e => hne e.symm
  have hC : Kd.C k54 w (some ⟨bl, 0, none⟩) xs.length xs := ft_kd hl hl' (by omega)
  have HC := Lib.hid hC
  clear hC
  have hB := Below.refl w.heap.size w
  go_enter Try.func26, Try.ntmps26
  go_wp2_with fail
  refine (Waits_c _ _ _ _).mono ?_
  rintro e v1 ⟨rfl, rfl⟩
  go_wp2_with fail
  refine (lr_Bits_Waits.calls _ _ xs _ w HC.out hcc (by unfold lr_Bits_Waits.f; rw [if_pos (by omega)])).mono ?_
  rintro e v2 ⟨rfl, hb2⟩
  go_wp2
  go_ret
  exact ⟨rfl, hb2⟩
end Go.Proofs.Ytkbaghblchlcnaa.Lr.Wd
namespace Go.Proofs.Ytkbaghblchlcnaa.Lr.Wd
open Go.RowKit Go.Shelf Go.Proofs.YtkbaghblchlcnaaW.PrintWords Go.Proofs.Ytkbaghblchlcnaa.IAll
attribute [local go_sem] Oper.semAt_some cell_row frozen_row isRow_setCell_eq rowAt_setCell_same rowAt_setCell_other isRow_alloc_eq rowAt_alloc rowAt_new rowAt_new' isRow_setRow_eq rowAt_setRow_same rowAt_setRow_other isRow_drew rowAt_drew size_setRow_ Lb_size Lb_at blk_ptr aggOf_agg below_alloc_e below_setCell_e below_setRow_e below_refl_e below_drew_r aside2_alloc_e aside2_setCell_e aside2_setRow_e aside2_drew_e aside2_refl_e aside2_drewN_e isRow_drewN rowAt_drewN below_drewN_e le_add_r offv_ptr one_lad zero_lad allOne_nil allOne_cons Value.oneCell' addr_at FA_size one_FA
attribute [local go_sem ↓] storeI storeC
attribute [local go_sem] eq2i eq2b eq2u
section
variable (g bl : Nat) (m p0 p1 : Int) (o0 o1 sp : Bool) (a b : Int) (n cc : Nat) (Tl : Array Value) (xs : List S54) (hn : xs.length = n) (h16 : n ≤ 16) (hcc : n ≤ cc) (lost : Int) (hne : ¬ g = bl)
include hn h16 hcc hne
theorem asks_c (k : Nat) (hk : k < 4) (w : World) (hr : isRow w g) (hr' : rowAt w g = #[.int .i64 m, .int .i64 p0, .int .i64 p1, .bool o0, .bool o1, .bool sp, .int .u32 a, .int .u32 b, .slice (some ⟨bl, 0, none⟩) n cc, .int .i64 lost]) (hl : isRow w bl) (hl' : rowAt w bl = FT xs Tl) : Calls Try.prog 26 #[.pointer (some ⟨g, 0, none⟩), .int .i64 k] w fun e w' => e = .returned (.bool (asks xs lost k)) ∧ Below w.heap.size w w' := by
  rcases (show k = 0 ∨ k = 1 ∨ k = 2 ∨ k = 3 by omega) with rfl | rfl | rfl | rfl
  · exact asks0_c g bl m p0 p1 o0 o1 sp a b n cc Tl xs hn h16 hcc lost w hr hr' hl hl' hne
  · exact asks1_c g bl m p0 p1 o0 o1 sp a b n cc Tl xs hn h16 hcc lost w hr hr' hl hl' hne
  · exact asks2_c g bl m p0 p1 o0 o1 sp a b n cc Tl xs hn h16 hcc lost w hr hr' hl hl' hne
  · exact asks3_c g bl m p0 p1 o0 o1 sp a b n cc Tl xs hn h16 hcc lost w hr hr' hl hl' hne
set_option maxRecDepth 100000 in
set_option maxHeartbeats 1000000 in
theorem reasons_iter (Pv : Obj → Prop) (S : Nat → Prop) (T : TypeId → Prop) (Bv : Nat) (W0 : World) (hS : ∀ k, S k → k < W0.heap.size) (hSv : S Bv) (hSg : S g) (hSl : S bl)
    (hv : Boxed W0 Bv 24 (.pointer (some ⟨g, 0, none⟩))) (hr : Row W0 g #[.int .i64 m, .int .i64 p0, .int .i64 p1, .bool o0, .bool o1, .bool sp, .int .u32 a, .int .u32 b, .slice (some ⟨bl, 0, none⟩) n cc, .int .i64 lost]) (hl : Row W0 bl (FT xs Tl)) :
    Iter Pv Try.prog 90 #[.pointer (some ⟨Bv, 0, none⟩)] (fun x : Int => #[.int .i64 x]) (KeepsS S T) (rsn xs lost 4) W0 := by
  intro l J Jx W hW hJ hJx hY h0
  have hK0 : KeepsS S T W0 W := KeepsS.new hW hS
  refine callsIn_of_wp Try.func90 rfl trivial ?_ rfl
  simp only [Try.ntmps90, List.size_toArray, List.length_cons, List.length_nil, Nat.reduceAdd, Nat.reduceSub, Array.replicate_succ, Array.replicate_zero, List.push_toArray, List.append_toArray, List.nil_append, List.cons_append]
  gi_wp2
  gi_loopw [3] (fun q wr => ∃ k : Nat, k ≤ 4 ∧ q = .int .i64 k ∧ J (rsn xs lost k) wr ∧ KeepsS S T W0 wr) (fun q _ => 4 - (intOf q).toNat)
  case atStart => exact ⟨0, by omega, rfl, h0, hK0⟩
  case round =>
    obtain ⟨k, hk, rfl, hj, hB⟩ := hrel
    have hvc := (hB.boxed hSv hv).cell
    by_cases hlt : k < 4
    · have k1 : (k : Int) < 4 := by omega
      have hr2 : Row wr g #[.int .i64 m, .int .i64 p0, .int .i64 p1, .bool o0, .bool o1, .bool sp, .int .u32 a, .int .u32 b, .slice (some ⟨bl, 0, none⟩) n cc, .int .i64 lost] := hr.same (hB.same _ hSg)
      have hl2 : Row wr bl (FT xs Tl) := hl.same (hB.same _ hSl)
      have HIn := Lib.hid (in_of_calls (asks_c g bl m p0 p1 o0 o1 sp a b n cc Tl xs hn h16 hcc lost hne k hlt wr hr2.1 hr2.2 hl2.1 hl2.2))
      clear hr2 hl2
      cases hp : asks xs lost k with
      | true =>
        have HS := Lib.hid (show rsn xs lost (k + 1) = rsn xs lost k ++ [(k : Int)] by rw [rsn, if_pos hp])
        obtain ⟨post, hx⟩ := rsn_at xs lost k hlt hp
        have HX := Lib.hid hx
        rw [hp] at HIn
        clear hx hp
        gi_wp2_with (refine HIn.out.mono ?_; rintro e W3 ⟨rfl, hb3⟩; have hb4 := Lib.hid hb3; clear hb3; obtain ⟨fn, tmps, assign, body, hy, hR⟩ := hY _ _ _ W3 HX.out (hJ.under hj hb4.out))
        refine hR.mono ?_
        rintro e W5 ⟨(⟨rfl, hJ3, hk3⟩ | ⟨rfl, hJx3⟩), -⟩
        · gi_wp2
          go_roundw
          case rel => exact ⟨k + 1, by omega, congrArg (Value.int .i64) (by go_num), by rw [HS.out]; exact hJ3, (hB.trans (KeepsS.new hb4.out (fun k hk => Nat.lt_of_lt_of_le (hS k hk) hB.size))).trans hk3⟩
          case measure => simp [intOf]; omega
        · gi_wp2
          refine bodyPost_ret (results_none rfl _ _ _) rfl ?_
          exact ⟨⟨_, rfl⟩, .inr ⟨_, _, _, HX.out, hJx3⟩⟩
      | false =>
        have HS := Lib.hid (show rsn xs lost (k + 1) = rsn xs lost k by rw [rsn, if_neg (by rw [hp]; simp), List.append_nil])
        rw [hp] at HIn
        clear hp
        gi_wp2_with (refine HIn.out.mono ?_; rintro e W3 ⟨rfl, hb3⟩; have hb4 := Lib.hid hb3; clear hb3)
        go_roundw
        case rel => exact ⟨k + 1, by omega, congrArg (Value.int .i64) (by go_num), by rw [HS.out]; exact hJ.under hj hb4.out, hB.trans (KeepsS.new hb4.out (fun k hk => Nat.lt_of_lt_of_le (hS k hk) hB.size))⟩
        case measure => simp [intOf]; omega
    · obtain rfl : k = 4 := by omega
      gi_wp2
      go_end0
      exact ⟨⟨_, rfl⟩, .inl hj⟩
end
end Go.Proofs.Ytkbaghblchlcnaa.Lr.Wd
namespace Go.Proofs.Ytkbaghblchlcnaa.Lr.Wd
open Go.RowKit Go.Shelf Go.Proofs.YtkbaghblchlcnaaW.PrintWords Go.Proofs.YtkbaghblchlcnaaW.PrintMore Go.Proofs.Ytkbaghblchlcnaa.IAll
attribute [local go_sem] Oper.semAt_some
set_option maxRecDepth 100000 in
set_option maxHeartbeats 1000000 in
theorem Misr_c (g bl : Nat) (m p0 p1 : Int) (o0 o1 sp : Bool) (a b : Int) (n cc : Nat) (T : Array Value) (xs : List S54) (hn : xs.length = n) (h16 : n ≤ 16) (hcc : n ≤ cc) (lost : Int) (hne : ¬ g = bl) (w : World) (hr : Row w g #[.int .i64 m, .int .i64 p0, .int .i64 p1, .bool o0, .bool o1, .bool sp, .int .u32 a, .int .u32 b, .slice (some ⟨bl, 0, none⟩) n cc, .int .i64 lost]) (hl : Row w bl (FT xs T)) :
    Calls Try.prog 35 #[.pointer (some ⟨g, 0, none⟩)] w fun e w' => e = .returned (.int .u64 (bitsOf (rsn xs lost 4))) ∧ Below w.heap.size w w' := by
  refine calls_of_wide ?_
  refine callsIn_of_wp_marks Try.func35 rfl trivial ?_ rfl
  simp only [Try.ntmps35, List.size_toArray, List.length_cons, List.length_nil, Nat.reduceAdd, Nat.reduceSub, Array.replicate_succ, Array.replicate_zero, List.push_toArray, List.append_toArray, List.nil_append, List.cons_append]
  have lg := hr.lt
  have ll := hl.lt
  gi_wp2_with (refine (in_of_calls (Reasons_c g _)).mono ?_; rintro e W9 ⟨rfl, rfl⟩)
  have hb0 : Below w.heap.size w (w.alloc (.cells #[.int .u64 0] 67)) := (Below.refl _ w).alloc (Nat.le_refl _) _
  have hN0 : Boxed (w.alloc (.cells #[.int .u64 0] 67)) w.heap.size 67 (.int .u64 0) := Boxed.new w 67 _
  have hs0 : (w.alloc (.cells #[.int .u64 0] 67)).heap.size = w.heap.size + 1 := by simp
  have hr0 : Row (w.alloc (.cells #[.int .u64 0] 67)) g #[.int .i64 m, .int .i64 p0, .int .i64 p1, .bool o0, .bool o1, .bool sp, .int .u32 a, .int .u32 b, .slice (some ⟨bl, 0, none⟩) n cc, .int .i64 lost] := hr.below hb0 lg
  have hl0 : Row (w.alloc (.cells #[.int .u64 0] 67)) bl (FT xs T) := hl.below hb0 ll
  generalize w.alloc (.cells #[.int .u64 0] 67) = W0 at *
  have hb1 : Below w.heap.size w (W0.alloc (.cells #[.pointer (some ⟨g, 0, none⟩)] 24)) := hb0.alloc (by omega) _
  have hN1 : Boxed (W0.alloc (.cells #[.pointer (some ⟨g, 0, none⟩)] 24)) w.heap.size 67 (.int .u64 0) := hN0.alloc _
  have hv1 : Boxed (W0.alloc (.cells #[.pointer (some ⟨g, 0, none⟩)] 24)) W0.heap.size 24 (.pointer (some ⟨g, 0, none⟩)) := Boxed.new W0 24 _
  have hs1 : (W0.alloc (.cells #[.pointer (some ⟨g, 0, none⟩)] 24)).heap.size = w.heap.size + 2 := by simp; omega
  have hr1 : Row (W0.alloc (.cells #[.pointer (some ⟨g, 0, none⟩)] 24)) g #[.int .i64 m, .int .i64 p0, .int .i64 p1, .bool o0, .bool o1, .bool sp, .int .u32 a, .int .u32 b, .slice (some ⟨bl, 0, none⟩) n cc, .int .i64 lost] := ⟨isRow_alloc hr0.1, (rowAt_alloc hr0.1).trans hr0.2⟩
  have hl1 : Row (W0.alloc (.cells #[.pointer (some ⟨g, 0, none⟩)] 24)) bl (FT xs T) := ⟨isRow_alloc hl0.1, (rowAt_alloc hl0.1).trans hl0.2⟩
  rw [hs0] at hv1
  unfold rsnV
  rw [hs0]
  generalize W0.alloc (.cells #[.pointer (some ⟨g, 0, none⟩)] 24) = W1 at *
  have hS : ∀ k, RsS g bl (w.heap.size + 1) k → k < W1.heap.size ∧ k ≠ w.heap.size := by
    rintro k (rfl | rfl | rfl) <;> omega
  refine wp_range (Pv := NoCells) (fun _ h => h) rfl (enters_of Try.func90 (by kernel_rfl) rfl) (reasons_iter g bl m p0 p1 o0 o1 sp a b n cc T xs hn h16 hcc lost hne NoCells (RsS g bl (w.heap.size + 1)) (fun _ => False) (w.heap.size + 1) W1 (fun k h => (hS k h).1) (.inr (.inr rfl)) (.inl rfl) (.inr (.inl rfl)) hv1 hr1 hl1) (Below.refl _ _)
    (fun h k => h.trans k) (KeepsS.put (fun k h => (hS k h).1)) (fun _ => rfl)
    (fun pre W => Boxed W w.heap.size 67 (.int .u64 (bitsOf pre)) ∧ Below w.heap.size w W) (fun _ _ _ => False)
    ((OwnP.box NoCells (by omega) 67 (fun pre : List Int => .int .u64 (bitsOf pre))).and (OwnP.below NoCells (by omega) (by omega))) (fun _ => OwnP.const _ _ (fun _ => False))
    ⟨hN1, hb1⟩ ?round ?done ?stop
  case round =>
    rintro l pre x post W hx hl_ hlt ⟨hb, hB⟩
    have hx0 : 0 ≤ x := (rsn_lt xs lost 4 x (by rw [hx]; simp)).1
    clear hx hN0 hb0 hN1 hb1 hv1 hr1 hl1 hr0 hl0 hr hl
    gi_wp2
    refine ⟨KeepsFrom.refl _ _, KeepsS.refl _ _ _, ⟨hb, hB⟩, ?_⟩
    clear hb hB
    rintro W2 hg ⟨hb, hB⟩
    have hc := hb.cell
    have hf := hb.frozen
    clear hg
    have HSH := Lib.hid (shl_is x)
    gi_wp2
    gi_region
    all_goals
      rw [← HSH.out]
      refine ⟨KeepsFrom.drew_ ((KeepsOthers.setCell _ _ _).from _), KeepsS.drew_ (KeepsS.set (p := ⟨w.heap.size, 0, none⟩) hb (fun h => h) (fun k hk => (hS k hk).2) _), ?_, below_drew_ (hB.setCell (p := ⟨w.heap.size, 0, none⟩) (by simp) _)⟩
      have := hb.set (.int .u64 (Go.bits .or .u64 (bitsOf pre) (shl .u64 1 x)))
      rw [bitsOf_snoc]; exact this
  case done =>
    rintro D W hD ⟨hb, hB⟩ hK
    have hc := hb.cell
    gi_wp2
    refine leave_mark hK (v := .int .u64 (bitsOf (rsn xs lost 4))) (by simp [results, Try.results35, go_sem]) ⟨rfl, below_putD hB (by omega) _⟩
  case stop =>
    rintro D c pre x post W _ _ h _
    exact h.elim
end Go.Proofs.Ytkbaghblchlcnaa.Lr.Wd
namespace Go.Proofs.Ytkbaghblchlcnaa.Lr
open Go.RowKit Go.Shelf Go.Proofs.YtkbaghblchlcnaaW.PrintWords Go.Proofs.Ytkbaghblchlcnaa.IAll
theorem tb_shl (k : Int) (h0 : 0 ≤ k) (h1 : k < 64) (j : Nat) (hj : j < 64) : tb (shl .u64 1 k) j = (k.toNat == j) := by
  rw [shl_is, wrap_u64_eq, show min k.toNat 64 = k.toNat by omega]
  have e : tb ((2 : Int) ^ k.toNat % 18446744073709551616) j = tb ((2 : Int) ^ k.toNat) j := tb_mod' _ 64 j hj
  rw [e, tb_two_pow]
  rw [Bool.eq_iff_iff]; simp
theorem tb_fold (j : Nat) (hj : j < 64) : ∀ (l : List Int) (v : Int), (∀ x ∈ l, 0 ≤ x ∧ x < 64) → tb (l.foldl (fun v k => Go.bits .or .u64 v (shl .u64 1 k)) v) j = (tb v j || l.any fun k => k.toNat == j)
  | [], v, _ => by simp
  | k :: l, v, h => by
    obtain ⟨h0, h1⟩ := h k List.mem_cons_self
    rw [List.foldl_cons, tb_fold j hj l _ (fun x hx => h x (List.mem_cons_of_mem _ hx)), tb_or_u _ _ _ hj, tb_shl k h0 h1 j hj, List.any_cons, Bool.or_assoc]
theorem bits_ne (p : S54 → Bool) (xs : List S54) (h16 : xs.length ≤ 16) : (bitsOf (places p xs) != 0) = decide (0 < (places p xs).length) := by
  have hall : ∀ x ∈ places p xs, 0 ≤ x ∧ x < 64 := fun x hx => by
    have := pl_mem p xs xs.length x hx
    omega
  cases hL : places p xs with
  | nil => rfl
  | cons k l =>
    rw [decide_eq_true (by simp), bne_iff_ne]
    intro e
    have hk := hall k (by rw [hL]; exact List.mem_cons_self)
    have ht := tb_fold k.toNat (by omega) (k :: l) 0 (fun x hx => hall x (by rw [hL]; exact hx))
    have e' : (k :: l).foldl (fun v k => Go.bits .or .u64 v (shl .u64 1 k)) 0 = 0 := e
    rw [e', tb_zero] at ht
    simp at ht
theorem bits_eq (p : S54 → Bool) (xs : List S54) (h16 : xs.length ≤ 16) : (bitsOf (places p xs) == 0) = decide ((places p xs).length = 0) := by
  have h := bits_ne p xs h16
  rw [Bool.eq_iff_iff] at h ⊢
  simp only [bne_iff_ne, ne_eq, decide_eq_true_eq, beq_iff_eq] at h ⊢
  omega
def b01 (b : Bool) (n : Int) : Int := if b then n else 0
theorem rsn_val (xs : List S54) (lost : Int) : bitsOf (rsn xs lost 4) = b01 (asks xs lost 0) 1 + b01 (asks xs lost 1) 2 + b01 (asks xs lost 2) 4 + b01 (asks xs lost 3) 8 := by
  have e : rsn xs lost 4 = (((([] ++ if asks xs lost 0 then [0] else []) ++ if asks xs lost 1 then [1] else []) ++ if asks xs lost 2 then [2] else []) ++ if asks xs lost 3 then [3] else []) := rfl
  rw [e]
  cases asks xs lost 0 <;> cases asks xs lost 1 <;> cases asks xs lost 2 <;> cases asks xs lost 3 <;> decide +kernel
theorem asks_0 (xs : List S54) (lost : Int) (h16 : xs.length ≤ 16) : asks xs lost 0 = decide (0 < (places pDone xs).length) := by unfold asks; rw [if_pos rfl, bits_ne pDone xs h16]
theorem asks_1 (xs : List S54) (lost : Int) : asks xs lost 1 = decide ((xs.length : Int) - (places pFree xs).length ≤ 1) := by unfold asks; rw [if_neg (by decide), if_pos rfl]
theorem asks_2 (xs : List S54) (lost : Int) : asks xs lost 2 = decide (0 < lost) := by unfold asks; rw [if_neg (by decide), if_neg (by decide), if_pos rfl]
theorem asks_3 (xs : List S54) (lost : Int) (h16 : xs.length ≤ 16) : asks xs lost 3 = decide ((places pWaits xs).length = 0) := by unfold asks; rw [if_neg (by decide), if_neg (by decide), if_neg (by decide), if_pos rfl, bits_eq pWaits xs h16]
/-- where a reason stands among those that there are -/
theorem rsn_split (xs : List S54) (lost : Int) : ∀ (n : Nat) (pre post : List Int) (x : Int), rsn xs lost n = pre ++ x :: post → ∃ k : Nat, k < n ∧ x = (k : Int) ∧ asks xs lost k = true ∧ pre = rsn xs lost k
  | 0, pre, post, x, h => by simp [rsn] at h
  | n + 1, pre, post, x, h => by
    rw [rsn] at h
    by_cases ha : asks xs lost n = true
    · rw [if_pos ha] at h
      rcases List.eq_nil_or_concat post with hp | ⟨post', y, hp⟩
      · subst hp
        obtain ⟨h1, h2⟩ := List.append_inj' h rfl
        exact ⟨n, by omega, (List.cons.inj h2).1.symm, ha, h1.symm⟩
      · subst hp
        rw [List.concat_eq_append, show pre ++ x :: (post' ++ [y]) = (pre ++ x :: post') ++ [y] by simp] at h
        obtain ⟨h1, _⟩ := List.append_inj' h rfl
        obtain ⟨k, q1, q2, q3, q4⟩ := rsn_split xs lost n pre post' x h1
        exact ⟨k, by omega, q2, q3, q4⟩
    · rw [if_neg ha, List.append_nil] at h
      obtain ⟨k, q1, q2, q3, q4⟩ := rsn_split xs lost n pre post x h
      exact ⟨k, by omega, q2, q3, q4⟩
/-- the sum of the bits of some places -/
def sumOf (l : List Int) : Int := l.foldl (fun v k => v + 2 ^ k.toNat) 0
theorem sumOf_snoc (l : List Int) (k : Int) : sumOf (l ++ [k]) = sumOf l + 2 ^ k.toNat := by simp [sumOf]
theorem sum_rsn (xs : List S54) (lost : Int) : sumOf (rsn xs lost 4) = bitsOf (rsn xs lost 4) := by
  have e : rsn xs lost 4 = (((([] ++ if asks xs lost 0 then [0] else []) ++ if asks xs lost 1 then [1] else []) ++ if asks xs lost 2 then [2] else []) ++ if asks xs lost 3 then [3] else []) := rfl
  rw [e]
  cases asks xs lost 0 <;> cases asks xs lost 1 <;> cases asks xs lost 2 <;> cases asks xs lost 3 <;> decide +kernel
theorem sum_bd (xs : List S54) (lost : Int) : ∀ k : Nat, 0 ≤ sumOf (rsn xs lost k) ∧ sumOf (rsn xs lost k) < 2 ^ k
  | 0 => by simp [rsn, sumOf]
  | k + 1 => by
    obtain ⟨h0, h1⟩ := sum_bd xs lost k
    have h2 : (2 : Int) ^ (k + 1) = 2 ^ k + 2 ^ k := by rw [Int.pow_succ]; omega
    rw [rsn]
    split
    · rw [sumOf_snoc, Int.toNat_natCast, h2]; omega
    · rw [List.append_nil, h2]; omega
def lastOf (l : List Int) : Int := l.getLast?.getD (-1)
theorem lastOf_snoc (l : List Int) (k : Int) : lastOf (l ++ [k]) = k := by simp [lastOf]
theorem last_lt (xs : List S54) (lost : Int) (k : Nat) : lastOf (rsn xs lost k) < k := by
  unfold lastOf
  cases h : (rsn xs lost k).getLast? with
  | none => simp; omega
  | some y =>
    have := rsn_lt xs lost k y (List.mem_of_getLast? h)
    simp; omega
end Go.Proofs.Ytkbaghblchlcnaa.Lr
namespace Go.Proofs.Ytkbaghblchlcnaa.Lr
open Go.RowKit Go.Shelf Go.Proofs.YtkbaghblchlcnaaW.PrintWords Go.Proofs.Ytkbaghblchlcnaa.IAll
section
variable {bl : Nat} {xs : List S54} (h16 : xs.length ≤ 16) {W : World} (h : isRow W bl) (h' : rowAt W bl = FA xs)
include h16 h h'
theorem rdone_c : Calls Try.prog 82 #[.slice (some ⟨bl, 0, none⟩) xs.length xs.length] W fun e w' => ∃ A c, e = .returned (.slice A (places pDone xs).length c) ∧ Below W.heap.size W w' :=
  (crierref20_Done.calls _ _ _ xs _ W (fa_kd h h' (by omega)) (Nat.le_refl _) (Done_is xs h16)).mono fun _ _ ⟨v, e, hR, hb⟩ => by
    obtain ⟨A, c, rfl, -, -⟩ := Kd.R_reads hR
    exact ⟨A, c, e, hb⟩
theorem rfree_c : Calls Try.prog 83 #[.slice (some ⟨bl, 0, none⟩) xs.length xs.length] W fun e w' => ∃ A c, e = .returned (.slice A (places pFree xs).length c) ∧ Below W.heap.size W w' :=
  (crierref20_Free.calls _ _ _ xs _ W (fa_kd h h' (by omega)) (Nat.le_refl _) (Free_is xs h16)).mono fun _ _ ⟨v, e, hR, hb⟩ => by
    obtain ⟨A, c, rfl, -, -⟩ := Kd.R_reads hR
    exact ⟨A, c, e, hb⟩
theorem rwaits_c : Calls Try.prog 80 #[.slice (some ⟨bl, 0, none⟩) xs.length xs.length] W fun e w' => ∃ A c, e = .returned (.slice A (places pWaits xs).length c) ∧ Below W.heap.size W w' :=
  (crierref20_Waits.calls _ _ _ xs _ W (fa_kd h h' (by omega)) (Nat.le_refl _) (Waits_is xs h16)).mono fun _ _ ⟨v, e, hR, hb⟩ => by
    obtain ⟨A, c, rfl, -, -⟩ := Kd.R_reads hR
    exact ⟨A, c, e, hb⟩
end
attribute [local go_sem] Oper.semAt_some cell_row frozen_row isRow_setCell_eq rowAt_setCell_same rowAt_setCell_other isRow_alloc_eq rowAt_alloc rowAt_new rowAt_new' isRow_setRow_eq rowAt_setRow_same rowAt_setRow_other isRow_drew rowAt_drew size_setRow_ Lb_size Lb_at blk_ptr aggOf_agg below_alloc_e below_setCell_e below_setRow_e below_refl_e below_drew_r aside2_alloc_e aside2_setCell_e aside2_setRow_e aside2_drew_e aside2_refl_e aside2_drewN_e isRow_drewN rowAt_drewN below_drewN_e le_add_r offv_ptr one_lad zero_lad allOne_nil allOne_cons Value.oneCell' addr_at FA_size one_FA RV_size RV_get70 RV_get71 RV_at70 RV_at71 RV_at5 RV_low
attribute [local go_sem ↓] storeI storeC storeE
attribute [local go_sem] eq2i eq2b eq2u
set_option maxRecDepth 100000 in
set_option maxHeartbeats 20000000 in
theorem rMisr_c (g bl : Nat) (R : Array Value) (hR : R.size = 70) (xs : List S54) (h16 : xs.length ≤ 16) (lost : Int) (hne : ¬ g = bl) (w : World) (hr : isRow w g) (hr' : rowAt w g = (RV R (.slice (some ⟨bl, 0, none⟩) xs.length xs.length) (.int .i64 lost))) (hl : isRow w bl) (hl' : rowAt w bl = FA xs) :
    Calls Try.prog 59 #[.pointer (some ⟨g, 0, none⟩)] w fun e w' => e = .returned (.int .u64 (bitsOf (rsn xs lost 4))) ∧ Below w.heap.size w w' := by
  have hne' : ¬ bl = g := fun e => hne e.symm
  have HD := Lib.hid (fun (W : World) (h : isRow W bl) (h' : rowAt W bl = FA xs) => rdone_c h16 h h')
  have HF := Lib.hid (fun (W : World) (h : isRow W bl) (h' : rowAt W bl = FA xs) => rfree_c h16 h h')
  have HW := Lib.hid (fun (W : World) (h : isRow W bl) (h' : rowAt W bl = FA xs) => rwaits_c h16 h h')
  have hF := pl_length pFree xs xs.length
  have hF' : (places pFree xs).length ≤ xs.length := hF
  have hv := rsn_val xs lost
  rw [asks_0 xs lost h16, asks_1 xs lost, asks_2 xs lost, asks_3 xs lost h16] at hv
  clear hF
  generalize hnD : (places pDone xs).length = nD at *
  generalize hnF : (places pFree xs).length = nF at *
  generalize hnW : (places pWaits xs).length = nW at *
  generalize bitsOf (rsn xs lost 4) = RES at *
  have HV := Lib.hid hv
  have hw : IntKind.i64.wrap ((xs.length : Int) - (nF : Int)) = (xs.length : Int) - (nF : Int) := IntWalk.i64_in _ (by omega)
  have u1 : IntKind.u64.wrap 1 = 1 := by decide
  have u2 : IntKind.u64.wrap 2 = 2 := by decide
  have u3 : IntKind.u64.wrap 3 = 3 := by decide
  have u4 : IntKind.u64.wrap 4 = 4 := by decide
  have u5 : IntKind.u64.wrap 5 = 5 := by decide
  have u6 : IntKind.u64.wrap 6 = 6 := by decide
  have u7 : IntKind.u64.wrap 7 = 7 := by decide
  have u8 : IntKind.u64.wrap 8 = 8 := by decide
  have u9 : IntKind.u64.wrap 9 = 9 := by decide
  have u10 : IntKind.u64.wrap 10 = 10 := by decide
  have u11 : IntKind.u64.wrap 11 = 11 := by decide
  have u12 : IntKind.u64.wrap 12 = 12 := by decide
  have u13 : IntKind.u64.wrap 13 = 13 := by decide
  have u14 : IntKind.u64.wrap 14 = 14 := by decide
  have u15 : IntKind.u64.wrap 15 = 15 := by decide
  have hB_0 : Below w.heap.size w w := Below.refl _ _
  clear hv hnD hnF hnW hF' h16
  go_enter Try.func59, Try.ntmps59
  go_wp2_with fail
  refine (HD.out _ (by go_simp) (by go_simp)).mono ?_
  rintro e v1 ⟨A1, c1, rfl, hb1⟩
  obtain ⟨G_1, G_1'⟩ : Row v1 g (RV R (.slice (some ⟨bl, 0, none⟩) xs.length xs.length) (.int .i64 lost)) := Row.step (by go_simp) (by go_simp) hb1
  obtain ⟨L_1, L_1'⟩ : Row v1 bl (FA xs) := Row.step (by go_simp) (by go_simp) hb1
  have hB_1 : Below w.heap.size w v1 := bk (by go_simp) (by first | (go_simp; done) | (go_simp; omega) | exact Below.size (by assumption)) hb1
  have hz_1 := hB_1.size
  clear hr hr' hl hl' hb1 hB_0
  by_cases z0 : 0 < nD
  all_goals
    have y0 : (0 : Int) < (nD : Int) ↔ 0 < nD := by omega
    simp only [z0, iff_true, iff_false] at y0
    go_wp2_with fail
    (first | go_region_with (go_at_call 83; refine (HF.out _ (by go_simp) (by go_simp)).mono ?_; rintro e v2 ⟨A2, c2, rfl, hb2⟩; obtain ⟨G_2, G_2'⟩ : Row v2 g (RV R (.slice (some ⟨bl, 0, none⟩) xs.length xs.length) (.int .i64 lost)) := Row.step (by go_simp) (by go_simp) hb2; obtain ⟨L_2, L_2'⟩ : Row v2 bl (FA xs) := Row.step (by go_simp) (by go_simp) hb2; have hB_2 : Below w.heap.size w v2 := bk (by go_simp) (by first | (go_simp; done) | (go_simp; omega) | exact Below.size (by assumption)) hb2; have hz_2 := hB_2.size) | fail)
    all_goals
      by_cases z1 : (xs.length : Int) - (nF : Int) ≤ 1
      all_goals
        by_cases z2 : 0 < lost
        all_goals
          go_wp2_with fail
          refine (HW.out _ (by go_simp) (by go_simp)).mono ?_
          rintro e v3 ⟨A3, c3, rfl, hb3⟩
          obtain ⟨G_3, G_3'⟩ : Row v3 g (RV R (.slice (some ⟨bl, 0, none⟩) xs.length xs.length) (.int .i64 lost)) := Row.step (by go_simp) (by go_simp) hb3
          obtain ⟨L_3, L_3'⟩ : Row v3 bl (FA xs) := Row.step (by go_simp) (by go_simp) hb3
          have hB_3 : Below w.heap.size w v3 := bk (by go_simp) (by first | (go_simp; done) | (go_simp; omega) | exact Below.size (by assumption)) hb3
          have hz_3 := hB_3.size
          by_cases z3 : nW = 0
          all_goals
            have y3 : ((nW : Int) == 0) = decide (nW = 0) := by rw [Bool.eq_iff_iff]; simp
            simp only [z3, decide_true, decide_false] at y3
            go_wp2
            go_ret
            exact ⟨by (show Ending.returned (Value.int IntKind.u64 _) = Ending.returned (Value.int IntKind.u64 RES)); rw [HV.out]; congr 2; unfold b01; simp only [decide_eq_true_eq]; clear HV; (repeat' split) <;> omega, by go_simp⟩
end Go.Proofs.Ytkbaghblchlcnaa.Lr
