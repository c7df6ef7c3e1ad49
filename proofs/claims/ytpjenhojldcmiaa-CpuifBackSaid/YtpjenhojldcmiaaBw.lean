/- The walk by hand of the law CpuifBack of layer 14: what is not taken, and what is. -/
import Derived.Test.YtpjenhojldcmiaaAw
import Derived.Test.YtpjenhojldcmiaaBk4
import Derived.Test.YtpjenhojldcmiaaSem14b
import Derived.Deep.RegionHeld3
import Derived.Deep.RegionWith
import Derived.RegionTactic
import Derived.ChangeAlike
namespace Go.Proofs.Ytpjenhojldcmiaa
open Go.RowKit Go.Shelf
attribute [local go_sem] Oper.semAt_some cell_row frozen_row isRow_setCell_eq rowAt_setCell_same rowAt_setCell_other isRow_alloc_eq rowAt_alloc rowAt_new rowAt_new' isRow_setRow_eq rowAt_setRow_same rowAt_setRow_other isRow_drew rowAt_drew size_setRow_ Lb_size Lb_at blk_ptr aggOf_agg below_alloc_e below_setCell_e below_setRow_e below_refl_e below_drew_r le_add_r offv_ptr one_lad zero_lad allOne_nil allOne_cons Value.oneCell'
attribute [local go_sem ↓] storeI storeC
attribute [local go_sem] eq2i eq2b eq2u
set_option maxRecDepth 100000 in
set_option maxHeartbeats 1000000 in
theorem back_no (m p0 p1 : Int) (o0 o1 sp : Bool) (a b : Int) (id pr gr : Int) (is : Bool) (id2 pr2 gr2 : Int) (is2 : Bool) (w : World) (hm : mayP m p0 p1 o0 o1 a b (pr % 256 / 8 * 8) gr is = false) :
    Calls Try.prog 3 #[.agg #[.int .i64 m, .int .i64 p0, .int .i64 p1, .bool o0, .bool o1, .bool sp, .int .u32 a, .int .u32 b], .agg #[.int .i64 id, .int .i64 pr, .int .i64 gr, .bool is], .agg #[.int .i64 id2, .int .i64 pr2, .int .i64 gr2, .bool is2]] w fun e w' => e = .returned (.bool true) ∧ Below w.heap.size w w' := by
  have HAW := Lib.hid (fun W : World => awake_c W)
  have HTK := Lib.hid (fun (W : World) (h : isRow W w.heap.size) (h' : rowAt W w.heap.size = #[.int .i64 m, .int .i64 p0, .int .i64 p1, .bool o0, .bool o1, .bool sp, .int .u32 a, .int .u32 b]) => Take_no1 w.heap.size m p0 p1 o0 o1 sp a b id (pr % 256 / 8 * 8) gr is gr W h h' hm)
  clear hm
  have hB_0 : Below w.heap.size w w := Below.refl _ _
  have ne_F_C : ¬ w.heap.size = (w.heap.size + 1) := by omega
  have en_F_C : ¬ (w.heap.size + 1) = w.heap.size := by omega
  have ne_F_D : ¬ w.heap.size = (w.heap.size + 1 + 1) := by omega
  have en_F_D : ¬ (w.heap.size + 1 + 1) = w.heap.size := by omega
  have ne_C_D : ¬ (w.heap.size + 1) = (w.heap.size + 1 + 1) := by omega
  have en_C_D : ¬ (w.heap.size + 1 + 1) = (w.heap.size + 1) := by omega
  go_enter Try.func3, Try.ntmps3
  go_wp2_with fail
  refine (HAW.out _).mono ?_
  rintro e v1 ⟨rfl, hb1⟩
  obtain ⟨F_1, F_1'⟩ : Row v1 w.heap.size #[.int .i64 m, .int .i64 p0, .int .i64 p1, .bool o0, .bool o1, .bool sp, .int .u32 a, .int .u32 b] := Row.step (by go_simp) (by go_simp) hb1
  obtain ⟨C_1, C_1'⟩ : Row v1 (w.heap.size + 1) #[.int .i64 id, .int .i64 pr, .int .i64 gr, .bool is] := Row.step (by go_simp) (by go_simp) hb1
  obtain ⟨D_1, D_1'⟩ : Row v1 (w.heap.size + 1 + 1) #[.int .i64 id2, .int .i64 pr2, .int .i64 gr2, .bool is2] := Row.step (by go_simp) (by go_simp) hb1
  have hB_1 : Below w.heap.size w v1 := bk (by go_simp) (by first | (go_simp; done) | (go_simp; omega) | exact Below.size (by assumption)) hb1
  clear hB_0 hb1
  have hz_1 : w.heap.size ≤ v1.heap.size := hB_1.size
  have hl_F_1 := isRow.lt F_1
  have ne_F_1_0 : ¬ w.heap.size = v1.heap.size := by omega
  have en_F_1_0 : ¬ v1.heap.size = w.heap.size := by omega
  have hl_C_1 := isRow.lt C_1
  have ne_C_1_0 : ¬ (w.heap.size + 1) = v1.heap.size := by omega
  have en_C_1_0 : ¬ v1.heap.size = (w.heap.size + 1) := by omega
  have hl_D_1 := isRow.lt D_1
  have ne_D_1_0 : ¬ (w.heap.size + 1 + 1) = v1.heap.size := by omega
  have en_D_1_0 : ¬ v1.heap.size = (w.heap.size + 1 + 1) := by omega
  have ne_F_W : ¬ w.heap.size = v1.heap.size := by omega
  have en_F_W : ¬ v1.heap.size = w.heap.size := by omega
  have ne_C_W : ¬ (w.heap.size + 1) = v1.heap.size := by omega
  have en_C_W : ¬ v1.heap.size = (w.heap.size + 1) := by omega
  have ne_D_W : ¬ (w.heap.size + 1 + 1) = v1.heap.size := by omega
  have en_D_W : ¬ v1.heap.size = (w.heap.size + 1 + 1) := by omega
  go_wp2_with fail
  refine (HTK.out _ (by go_simp) (by go_simp)).mono ?_
  rintro e v2 ⟨rfl, hb2⟩
  obtain ⟨F_2, F_2'⟩ : Row v2 w.heap.size #[.int .i64 m, .int .i64 p0, .int .i64 p1, .bool o0, .bool o1, .bool sp, .int .u32 a, .int .u32 b] := Row.step (by go_simp) (by go_simp) hb2
  obtain ⟨C_2, C_2'⟩ : Row v2 (w.heap.size + 1) #[.int .i64 id, .int .i64 (pr % 256 / 8 * 8), .int .i64 gr, .bool is] := Row.step (by go_simp) (by go_simp) hb2
  obtain ⟨D_2, D_2'⟩ : Row v2 (w.heap.size + 1 + 1) #[.int .i64 id2, .int .i64 pr2, .int .i64 gr2, .bool is2] := Row.step (by go_simp) (by go_simp) hb2
  obtain ⟨W_2, W_2'⟩ : Row v2 v1.heap.size #[.int .i64 m, .int .i64 p0, .int .i64 p1, .bool o0, .bool o1, .bool sp, .int .u32 a, .int .u32 b] := Row.step (by go_simp) (by go_simp) hb2
  have hB_2 : Below w.heap.size w v2 := bk (by go_simp) (by first | (go_simp; done) | (go_simp; omega) | exact Below.size (by assumption)) hb2
  clear F_1 F_1' C_1 C_1' D_1 D_1' hB_1 hb2
  have hz_2 : w.heap.size ≤ v2.heap.size := hB_2.size
  have hl_F_2 := isRow.lt F_2
  have ne_F_2_0 : ¬ w.heap.size = v2.heap.size := by omega
  have en_F_2_0 : ¬ v2.heap.size = w.heap.size := by omega
  have hl_C_2 := isRow.lt C_2
  have ne_C_2_0 : ¬ (w.heap.size + 1) = v2.heap.size := by omega
  have en_C_2_0 : ¬ v2.heap.size = (w.heap.size + 1) := by omega
  have hl_D_2 := isRow.lt D_2
  have ne_D_2_0 : ¬ (w.heap.size + 1 + 1) = v2.heap.size := by omega
  have en_D_2_0 : ¬ v2.heap.size = (w.heap.size + 1 + 1) := by omega
  have hl_W_2 := isRow.lt W_2
  have ne_W_2_0 : ¬ v1.heap.size = v2.heap.size := by omega
  have en_W_2_0 : ¬ v2.heap.size = v1.heap.size := by omega
  go_wp2
  go_ret
  exact ⟨rfl, hB_2⟩
set_option maxRecDepth 100000 in
set_option maxHeartbeats 4000000 in
theorem back_yes0 (m p0 p1 : Int) (o0 o1 sp : Bool) (a b : Int) (id pr gr : Int) (is : Bool) (id2 pr2 gr2 : Int) (is2 : Bool) (w : World) (mk lv x y : Int) (hg : gr % 2 = 0) (h0 : 0 ≤ lv) (h255 : lv < 256)
    (hm : mayP m p0 p1 o0 o1 a b (pr % 256 / 8 * 8) gr is = true) (hmk : maskP 0 p0 = mk) (hlv : bits .and .i64 (pr % 256 / 8 * 8) mk = lv) (h8 : lv / 8 * 8 = lv)
    (hx : setA .or a gr lv = x) (hy : setB .or b gr lv = y) (htop : top x y = (lv, 0)) (hm1 : mayP m p0 p1 o0 o1 x y (pr % 256 / 8 * 8) gr is = false)
    (hm2 : mayP m p0 p1 o0 o1 x y (bits .or .i64 (pr % 256 / 8 * 8) (bits .and .i64 pr2 7)) gr is2 = false) (hd : dropB' x y 0 = true) (hda : dropA x y = a) (hdb : dropB x y = b) (bq : Bool) (hq : ((0 : Int) != gr) = bq) :
    Calls Try.prog 3 #[.agg #[.int .i64 m, .int .i64 p0, .int .i64 p1, .bool o0, .bool o1, .bool sp, .int .u32 a, .int .u32 b], .agg #[.int .i64 id, .int .i64 pr, .int .i64 gr, .bool is], .agg #[.int .i64 id2, .int .i64 pr2, .int .i64 gr2, .bool is2]] w fun e w' => e = .returned (.bool true) ∧ Below w.heap.size w w' := by
  have HAW := Lib.hid (fun W : World => awake_c W)
  have HTK := Lib.hid (fun (W : World) (h : isRow W w.heap.size) (h' : rowAt W w.heap.size = #[.int .i64 m, .int .i64 p0, .int .i64 p1, .bool o0, .bool o1, .bool sp, .int .u32 a, .int .u32 b]) => Take_yes w.heap.size m p0 p1 o0 o1 sp a b id (pr % 256 / 8 * 8) gr is W h h' hm mk (by rw [hg, show ptP p0 p1 gr = p0 by unfold ptP; rw [hg]; rfl]; exact hmk) x y (by rw [hlv]; exact hx) (by rw [hlv]; exact hy))
  have HMA := Lib.hid (fun W : World => (Mask_c 0 p0 W).mono fun _ _ h => bs h)
  rw [hmk] at HMA
  have HRU := Lib.hid (fun W : World => ifrun_c m p0 p1 o0 o1 sp x y W)
  rw [htop] at HRU
  have HM1 := Lib.hid (fun W : World => May_c m p0 p1 o0 o1 sp x y id (pr % 256 / 8 * 8) gr is W)
  rw [hm1] at HM1
  have HM2 := Lib.hid (fun W : World => May_c m p0 p1 o0 o1 sp x y id2 (bits .or .i64 (pr % 256 / 8 * 8) (bits .and .i64 pr2 7)) gr is2 W)
  rw [hm2] at HM2
  have HDR := Lib.hid (show ∀ (W : World) (h : isRow W w.heap.size) (h' : rowAt W w.heap.size = #[.int .i64 m, .int .i64 p0, .int .i64 p1, .bool o0, .bool o1, .bool sp, .int .u32 x, .int .u32 y]), Calls Try.prog 14 #[.pointer (some ⟨w.heap.size, 0, none⟩), .int .i64 0] W fun e w' => e = .returned (.bool true) ∧ Row w' w.heap.size #[.int .i64 m, .int .i64 p0, .int .i64 p1, .bool o0, .bool o1, .bool sp, .int .u32 a, .int .u32 b] ∧ Aside w.heap.size W w' from fun W h h' => by
    have := IfDrop_c w.heap.size m p0 p1 o0 o1 sp x y 0 W h h'
    rw [hd, if_pos rfl, if_pos rfl, hda, hdb] at this
    exact this)
  have HLV := Lib.hid hlv
  have H8 := Lib.hid h8
  have HQ := Lib.hid hq
  have h1 := and1 gr
  rw [hg] at h1
  have HG := Lib.hid h1
  clear hm hmk hlv h8 hx hy htop hm1 hm2 hd hda hdb hq hg h1
  have hB_0 : Below w.heap.size w w := Below.refl _ _
  have ne_F_C : ¬ w.heap.size = (w.heap.size + 1) := by omega
  have en_F_C : ¬ (w.heap.size + 1) = w.heap.size := by omega
  have ne_F_D : ¬ w.heap.size = (w.heap.size + 2) := by omega
  have en_F_D : ¬ (w.heap.size + 2) = w.heap.size := by omega
  have ne_C_D : ¬ (w.heap.size + 1) = (w.heap.size + 2) := by omega
  have en_C_D : ¬ (w.heap.size + 2) = (w.heap.size + 1) := by omega
  go_enter Try.func3, Try.ntmps3
  go_wp2_with fail
  refine (HAW.out _).mono ?_
  rintro e v1 ⟨rfl, hb1⟩
  obtain ⟨F_1, F_1'⟩ : Row v1 w.heap.size #[.int .i64 m, .int .i64 p0, .int .i64 p1, .bool o0, .bool o1, .bool sp, .int .u32 a, .int .u32 b] := Row.step (by go_simp) (by go_simp) hb1
  obtain ⟨C_1, C_1'⟩ : Row v1 (w.heap.size + 1) #[.int .i64 id, .int .i64 pr, .int .i64 gr, .bool is] := Row.step (by go_simp) (by go_simp) hb1
  obtain ⟨D_1, D_1'⟩ : Row v1 (w.heap.size + 2) #[.int .i64 id2, .int .i64 pr2, .int .i64 gr2, .bool is2] := Row.step (by go_simp) (by go_simp) hb1
  have hB_1 : Below w.heap.size w v1 := bk (by go_simp) (by first | (go_simp; done) | (go_simp; omega) | exact Below.size (by assumption)) hb1
  clear hB_0 hb1
  have hz_1 : w.heap.size ≤ v1.heap.size := hB_1.size
  have hl_F_1 := isRow.lt F_1
  have ne_F_1_0 : ¬ w.heap.size = v1.heap.size := by omega
  have en_F_1_0 : ¬ v1.heap.size = w.heap.size := by omega
  have hl_C_1 := isRow.lt C_1
  have ne_C_1_0 : ¬ (w.heap.size + 1) = v1.heap.size := by omega
  have en_C_1_0 : ¬ v1.heap.size = (w.heap.size + 1) := by omega
  have hl_D_1 := isRow.lt D_1
  have ne_D_1_0 : ¬ (w.heap.size + 2) = v1.heap.size := by omega
  have en_D_1_0 : ¬ v1.heap.size = (w.heap.size + 2) := by omega
  have ne_F_W : ¬ w.heap.size = v1.heap.size := by omega
  have en_F_W : ¬ v1.heap.size = w.heap.size := by omega
  have ne_C_W : ¬ (w.heap.size + 1) = v1.heap.size := by omega
  have en_C_W : ¬ v1.heap.size = (w.heap.size + 1) := by omega
  have ne_D_W : ¬ (w.heap.size + 2) = v1.heap.size := by omega
  have en_D_W : ¬ v1.heap.size = (w.heap.size + 2) := by omega
  go_wp2_with fail
  refine (HTK.out _ (by go_simp) (by go_simp)).mono ?_
  rintro e v2 ⟨rfl, ⟨F_2, F_2'⟩, hA2⟩
  obtain ⟨C_2, C_2'⟩ : Row v2 (w.heap.size + 1) #[.int .i64 id, .int .i64 (pr % 256 / 8 * 8), .int .i64 gr, .bool is] := hA2.row ⟨by go_simp, by go_simp⟩ (by omega)
  obtain ⟨D_2, D_2'⟩ : Row v2 (w.heap.size + 2) #[.int .i64 id2, .int .i64 pr2, .int .i64 gr2, .bool is2] := hA2.row ⟨by go_simp, by go_simp⟩ (by omega)
  obtain ⟨W_2, W_2'⟩ : Row v2 v1.heap.size #[.int .i64 m, .int .i64 p0, .int .i64 p1, .bool o0, .bool o1, .bool sp, .int .u32 a, .int .u32 b] := hA2.row ⟨by go_simp, by go_simp⟩ (by omega)
  have hB_2 : Below w.heap.size w v2 := hA2.below (by go_simp) (by first | omega | (go_simp; done) | (go_simp; omega)) (by first | (go_simp; done) | (go_simp; omega) | exact Below.size (by assumption))
  clear F_1 F_1' C_1 C_1' D_1 D_1' hB_1 hA2
  have hz_2 : w.heap.size ≤ v2.heap.size := hB_2.size
  have hl_F_2 := isRow.lt F_2
  have ne_F_2_0 : ¬ w.heap.size = v2.heap.size := by omega
  have en_F_2_0 : ¬ v2.heap.size = w.heap.size := by omega
  have hl_C_2 := isRow.lt C_2
  have ne_C_2_0 : ¬ (w.heap.size + 1) = v2.heap.size := by omega
  have en_C_2_0 : ¬ v2.heap.size = (w.heap.size + 1) := by omega
  have hl_D_2 := isRow.lt D_2
  have ne_D_2_0 : ¬ (w.heap.size + 2) = v2.heap.size := by omega
  have en_D_2_0 : ¬ v2.heap.size = (w.heap.size + 2) := by omega
  have hl_W_2 := isRow.lt W_2
  have ne_W_2_0 : ¬ v1.heap.size = v2.heap.size := by omega
  have en_W_2_0 : ¬ v2.heap.size = v1.heap.size := by omega
  have h1 := HG.out
  go_wp2_with fail
  (first | go_region_held3 (fun w' => isRow w' w.heap.size ∧ rowAt w' w.heap.size = #[.int .i64 m, .int .i64 p0, .int .i64 p1, .bool o0, .bool o1, .bool sp, .int .u32 x, .int .u32 y] ∧ isRow w' (w.heap.size + 1) ∧ rowAt w' (w.heap.size + 1) = #[.int .i64 id, .int .i64 (pr % 256 / 8 * 8), .int .i64 gr, .bool is] ∧ isRow w' (w.heap.size + 2) ∧ rowAt w' (w.heap.size + 2) = #[.int .i64 id2, .int .i64 pr2, .int .i64 gr2, .bool is2] ∧ isRow w' v1.heap.size ∧ rowAt w' v1.heap.size = #[.int .i64 m, .int .i64 p0, .int .i64 p1, .bool o0, .bool o1, .bool sp, .int .u32 a, .int .u32 b] ∧ Below w.heap.size w w')
    (first | exact ⟨F_2, F_2', C_2, C_2', D_2, D_2', W_2, W_2', below_drew0 hB_2⟩ | (go_split_ands; exact ⟨rk1 (by assumption) hb, rk2 (by assumption) (by assumption) hb, rk1 (by assumption) hb, rk2 (by assumption) (by assumption) hb, rk1 (by assumption) hb, rk2 (by assumption) (by assumption) hb, rk1 (by assumption) hb, rk2 (by assumption) (by assumption) hb, bk (by assumption) (Below.size (by assumption)) hb⟩))
    ((first | (go_at_call 11; (with_reducible refine (HMA.out _).mono ?_); rintro e w4 ⟨rfl, hb⟩))) | fail)
  go_split_ands
  go_wp2_with fail
  refine (HRU.out _).mono ?_
  rintro e v3 ⟨rfl, hb3⟩
  obtain ⟨F_3, F_3'⟩ : Row v3 w.heap.size #[.int .i64 m, .int .i64 p0, .int .i64 p1, .bool o0, .bool o1, .bool sp, .int .u32 x, .int .u32 y] := Row.step (by go_simp) (by go_simp) hb3
  obtain ⟨C_3, C_3'⟩ : Row v3 (w.heap.size + 1) #[.int .i64 id, .int .i64 (pr % 256 / 8 * 8), .int .i64 gr, .bool is] := Row.step (by go_simp) (by go_simp) hb3
  obtain ⟨D_3, D_3'⟩ : Row v3 (w.heap.size + 2) #[.int .i64 id2, .int .i64 pr2, .int .i64 gr2, .bool is2] := Row.step (by go_simp) (by go_simp) hb3
  obtain ⟨W_3, W_3'⟩ : Row v3 v1.heap.size #[.int .i64 m, .int .i64 p0, .int .i64 p1, .bool o0, .bool o1, .bool sp, .int .u32 a, .int .u32 b] := Row.step (by go_simp) (by go_simp) hb3
  have hB_3 : Below w.heap.size w v3 := bk (by go_simp) (by first | (go_simp; done) | (go_simp; omega) | exact Below.size (by assumption)) hb3
  clear hb3
  have hz_3 : w.heap.size ≤ v3.heap.size := hB_3.size
  have hl_F_3 := isRow.lt F_3
  have ne_F_3_0 : ¬ w.heap.size = v3.heap.size := by omega
  have en_F_3_0 : ¬ v3.heap.size = w.heap.size := by omega
  have hl_C_3 := isRow.lt C_3
  have ne_C_3_0 : ¬ (w.heap.size + 1) = v3.heap.size := by omega
  have en_C_3_0 : ¬ v3.heap.size = (w.heap.size + 1) := by omega
  have hl_D_3 := isRow.lt D_3
  have ne_D_3_0 : ¬ (w.heap.size + 2) = v3.heap.size := by omega
  have en_D_3_0 : ¬ v3.heap.size = (w.heap.size + 2) := by omega
  have hl_W_3 := isRow.lt W_3
  have ne_W_3_0 : ¬ v1.heap.size = v3.heap.size := by omega
  have en_W_3_0 : ¬ v3.heap.size = v1.heap.size := by omega
  have h1 := HG.out
  have hlv := HLV.out
  have h8 := H8.out
  go_wp2_with fail
  clear hlv h8
  refine wp_named (fun W_ => (isRow W_ w.heap.size ∧ rowAt W_ w.heap.size = #[.int .i64 m, .int .i64 p0, .int .i64 p1, .bool o0, .bool o1, .bool sp, .int .u32 x, .int .u32 y]) ∧ (isRow W_ (w.heap.size + 1) ∧ rowAt W_ (w.heap.size + 1) = #[.int .i64 id, .int .i64 (pr % 256 / 8 * 8), .int .i64 gr, .bool is]) ∧ (isRow W_ (w.heap.size + 2) ∧ rowAt W_ (w.heap.size + 2) = #[.int .i64 id2, .int .i64 pr2, .int .i64 gr2, .bool is2]) ∧ (isRow W_ v1.heap.size ∧ rowAt W_ v1.heap.size = #[.int .i64 m, .int .i64 p0, .int .i64 p1, .bool o0, .bool o1, .bool sp, .int .u32 a, .int .u32 b]) ∧ Below w.heap.size w W_) (by refine ⟨⟨by go_simp, by go_simp⟩, ⟨by go_simp, by go_simp⟩, ⟨by go_simp, by go_simp⟩, ⟨by go_simp, by go_simp⟩, by go_simp⟩) ?_
  rintro v4 ⟨⟨F_4, F_4'⟩, ⟨C_4, C_4'⟩, ⟨D_4, D_4'⟩, ⟨W_4, W_4'⟩, hB_4⟩
  clear F_3 F_3' C_3 C_3' D_3 D_3' W_3 W_3' hB_3
  have hz_4 : w.heap.size ≤ v4.heap.size := hB_4.size
  have hl_F_4 := isRow.lt F_4
  have ne_F_4_0 : ¬ w.heap.size = v4.heap.size := by omega
  have en_F_4_0 : ¬ v4.heap.size = w.heap.size := by omega
  have hl_C_4 := isRow.lt C_4
  have ne_C_4_0 : ¬ (w.heap.size + 1) = v4.heap.size := by omega
  have en_C_4_0 : ¬ v4.heap.size = (w.heap.size + 1) := by omega
  have hl_D_4 := isRow.lt D_4
  have ne_D_4_0 : ¬ (w.heap.size + 2) = v4.heap.size := by omega
  have en_D_4_0 : ¬ v4.heap.size = (w.heap.size + 2) := by omega
  have hl_W_4 := isRow.lt W_4
  have ne_W_4_0 : ¬ v1.heap.size = v4.heap.size := by omega
  have en_W_4_0 : ¬ v4.heap.size = v1.heap.size := by omega
  go_region
  all_goals
    refine exit_named (fun W_ => (isRow W_ w.heap.size ∧ rowAt W_ w.heap.size = #[.int .i64 m, .int .i64 p0, .int .i64 p1, .bool o0, .bool o1, .bool sp, .int .u32 x, .int .u32 y]) ∧ (isRow W_ (w.heap.size + 1) ∧ rowAt W_ (w.heap.size + 1) = #[.int .i64 id, .int .i64 (pr % 256 / 8 * 8), .int .i64 gr, .bool is]) ∧ (isRow W_ (w.heap.size + 2) ∧ rowAt W_ (w.heap.size + 2) = #[.int .i64 id2, .int .i64 (bits .or .i64 (pr % 256 / 8 * 8) (bits .and .i64 pr2 7)), .int .i64 gr, .bool is2]) ∧ (isRow W_ v1.heap.size ∧ rowAt W_ v1.heap.size = #[.int .i64 m, .int .i64 p0, .int .i64 p1, .bool o0, .bool o1, .bool sp, .int .u32 a, .int .u32 b]) ∧ Below w.heap.size w W_) (by refine ⟨⟨by go_simp, by go_simp⟩, ⟨by go_simp, by go_simp⟩, ⟨by go_simp, by go_simp⟩, ⟨by go_simp, by go_simp⟩, by go_simp⟩) ?_
    rintro v5 ⟨⟨F_5, F_5'⟩, ⟨C_5, C_5'⟩, ⟨D_5, D_5'⟩, ⟨W_5, W_5'⟩, hB_5⟩
    clear F_4 F_4' C_4 C_4' D_4 D_4' W_4 W_4' hB_4
    have hz_5 : w.heap.size ≤ v5.heap.size := hB_5.size
    have hl_F_5 := isRow.lt F_5
    have ne_F_5_0 : ¬ w.heap.size = v5.heap.size := by omega
    have en_F_5_0 : ¬ v5.heap.size = w.heap.size := by omega
    have hl_C_5 := isRow.lt C_5
    have ne_C_5_0 : ¬ (w.heap.size + 1) = v5.heap.size := by omega
    have en_C_5_0 : ¬ v5.heap.size = (w.heap.size + 1) := by omega
    have hl_D_5 := isRow.lt D_5
    have ne_D_5_0 : ¬ (w.heap.size + 2) = v5.heap.size := by omega
    have en_D_5_0 : ¬ v5.heap.size = (w.heap.size + 2) := by omega
    have hl_W_5 := isRow.lt W_5
    have ne_W_5_0 : ¬ v1.heap.size = v5.heap.size := by omega
    have en_W_5_0 : ¬ v5.heap.size = v1.heap.size := by omega
    go_wp2_with fail
    refine (HM1.out _).mono ?_
    rintro e v6 ⟨rfl, hb6⟩
    obtain ⟨F_6, F_6'⟩ : Row v6 w.heap.size #[.int .i64 m, .int .i64 p0, .int .i64 p1, .bool o0, .bool o1, .bool sp, .int .u32 x, .int .u32 y] := Row.step (by go_simp) (by go_simp) hb6
    obtain ⟨C_6, C_6'⟩ : Row v6 (w.heap.size + 1) #[.int .i64 id, .int .i64 (pr % 256 / 8 * 8), .int .i64 gr, .bool is] := Row.step (by go_simp) (by go_simp) hb6
    obtain ⟨D_6, D_6'⟩ : Row v6 (w.heap.size + 2) #[.int .i64 id2, .int .i64 (bits .or .i64 (pr % 256 / 8 * 8) (bits .and .i64 pr2 7)), .int .i64 gr, .bool is2] := Row.step (by go_simp) (by go_simp) hb6
    obtain ⟨W_6, W_6'⟩ : Row v6 v1.heap.size #[.int .i64 m, .int .i64 p0, .int .i64 p1, .bool o0, .bool o1, .bool sp, .int .u32 a, .int .u32 b] := Row.step (by go_simp) (by go_simp) hb6
    have hB_6 : Below w.heap.size w v6 := bk (by go_simp) (by first | (go_simp; done) | (go_simp; omega) | exact Below.size (by assumption)) hb6
    clear F_5 F_5' C_5 C_5' D_5 D_5' W_5 W_5' hB_5 hb6
    have hz_6 : w.heap.size ≤ v6.heap.size := hB_6.size
    have hl_F_6 := isRow.lt F_6
    have ne_F_6_0 : ¬ w.heap.size = v6.heap.size := by omega
    have en_F_6_0 : ¬ v6.heap.size = w.heap.size := by omega
    have hl_C_6 := isRow.lt C_6
    have ne_C_6_0 : ¬ (w.heap.size + 1) = v6.heap.size := by omega
    have en_C_6_0 : ¬ v6.heap.size = (w.heap.size + 1) := by omega
    have hl_D_6 := isRow.lt D_6
    have ne_D_6_0 : ¬ (w.heap.size + 2) = v6.heap.size := by omega
    have en_D_6_0 : ¬ v6.heap.size = (w.heap.size + 2) := by omega
    have hl_W_6 := isRow.lt W_6
    have ne_W_6_0 : ¬ v1.heap.size = v6.heap.size := by omega
    have en_W_6_0 : ¬ v6.heap.size = v1.heap.size := by omega
    go_wp2_with fail
    refine (HM2.out _).mono ?_
    rintro e v7 ⟨rfl, hb7⟩
    obtain ⟨F_7, F_7'⟩ : Row v7 w.heap.size #[.int .i64 m, .int .i64 p0, .int .i64 p1, .bool o0, .bool o1, .bool sp, .int .u32 x, .int .u32 y] := Row.step (by go_simp) (by go_simp) hb7
    obtain ⟨C_7, C_7'⟩ : Row v7 (w.heap.size + 1) #[.int .i64 id, .int .i64 (pr % 256 / 8 * 8), .int .i64 gr, .bool is] := Row.step (by go_simp) (by go_simp) hb7
    obtain ⟨D_7, D_7'⟩ : Row v7 (w.heap.size + 2) #[.int .i64 id2, .int .i64 (bits .or .i64 (pr % 256 / 8 * 8) (bits .and .i64 pr2 7)), .int .i64 gr, .bool is2] := Row.step (by go_simp) (by go_simp) hb7
    obtain ⟨W_7, W_7'⟩ : Row v7 v1.heap.size #[.int .i64 m, .int .i64 p0, .int .i64 p1, .bool o0, .bool o1, .bool sp, .int .u32 a, .int .u32 b] := Row.step (by go_simp) (by go_simp) hb7
    have hB_7 : Below w.heap.size w v7 := bk (by go_simp) (by first | (go_simp; done) | (go_simp; omega) | exact Below.size (by assumption)) hb7
    clear F_6 F_6' C_6 C_6' D_6 D_6' W_6 W_6' hB_6 hb7
    have hz_7 : w.heap.size ≤ v7.heap.size := hB_7.size
    have hl_F_7 := isRow.lt F_7
    have ne_F_7_0 : ¬ w.heap.size = v7.heap.size := by omega
    have en_F_7_0 : ¬ v7.heap.size = w.heap.size := by omega
    have hl_C_7 := isRow.lt C_7
    have ne_C_7_0 : ¬ (w.heap.size + 1) = v7.heap.size := by omega
    have en_C_7_0 : ¬ v7.heap.size = (w.heap.size + 1) := by omega
    have hl_D_7 := isRow.lt D_7
    have ne_D_7_0 : ¬ (w.heap.size + 2) = v7.heap.size := by omega
    have en_D_7_0 : ¬ v7.heap.size = (w.heap.size + 2) := by omega
    have hl_W_7 := isRow.lt W_7
    have ne_W_7_0 : ¬ v1.heap.size = v7.heap.size := by omega
    have en_W_7_0 : ¬ v7.heap.size = v1.heap.size := by omega
    have h1 := HG.out
    have hq := HQ.out
    cases bq
    · skip
      go_wp2_with fail
      refine (HDR.out _ (by go_simp) (by go_simp)).mono ?_
      rintro e v8 ⟨rfl, ⟨F_8, F_8'⟩, hA8⟩
      obtain ⟨C_8, C_8'⟩ : Row v8 (w.heap.size + 1) #[.int .i64 id, .int .i64 (pr % 256 / 8 * 8), .int .i64 gr, .bool is] := hA8.row ⟨by go_simp, by go_simp⟩ (by omega)
      obtain ⟨D_8, D_8'⟩ : Row v8 (w.heap.size + 2) #[.int .i64 id2, .int .i64 (bits .or .i64 (pr % 256 / 8 * 8) (bits .and .i64 pr2 7)), .int .i64 gr, .bool is2] := hA8.row ⟨by go_simp, by go_simp⟩ (by omega)
      obtain ⟨W_8, W_8'⟩ : Row v8 v1.heap.size #[.int .i64 m, .int .i64 p0, .int .i64 p1, .bool o0, .bool o1, .bool sp, .int .u32 a, .int .u32 b] := hA8.row ⟨by go_simp, by go_simp⟩ (by omega)
      have hB_8 : Below w.heap.size w v8 := hA8.below (by go_simp) (by first | omega | (go_simp; done) | (go_simp; omega)) (by first | (go_simp; done) | (go_simp; omega) | exact Below.size (by assumption))
      clear F_7 F_7' C_7 C_7' D_7 D_7' W_7 W_7' hB_7 hA8
      have hz_8 : w.heap.size ≤ v8.heap.size := hB_8.size
      have hl_F_8 := isRow.lt F_8
      have ne_F_8_0 : ¬ w.heap.size = v8.heap.size := by omega
      have en_F_8_0 : ¬ v8.heap.size = w.heap.size := by omega
      have hl_C_8 := isRow.lt C_8
      have ne_C_8_0 : ¬ (w.heap.size + 1) = v8.heap.size := by omega
      have en_C_8_0 : ¬ v8.heap.size = (w.heap.size + 1) := by omega
      have hl_D_8 := isRow.lt D_8
      have ne_D_8_0 : ¬ (w.heap.size + 2) = v8.heap.size := by omega
      have en_D_8_0 : ¬ v8.heap.size = (w.heap.size + 2) := by omega
      have hl_W_8 := isRow.lt W_8
      have ne_W_8_0 : ¬ v1.heap.size = v8.heap.size := by omega
      have en_W_8_0 : ¬ v8.heap.size = v1.heap.size := by omega
      go_wp2
      go_ret
      exact ⟨rfl, by assumption⟩
    · go_wp2
      go_ret
      exact ⟨rfl, by assumption⟩
set_option maxRecDepth 100000 in
set_option maxHeartbeats 4000000 in
theorem back_yes1 (m p0 p1 : Int) (o0 o1 sp : Bool) (a b : Int) (id pr gr : Int) (is : Bool) (id2 pr2 gr2 : Int) (is2 : Bool) (w : World) (mk lv x y : Int) (hg : gr % 2 = 1) (h0 : 0 ≤ lv) (h255 : lv < 256)
    (hm : mayP m p0 p1 o0 o1 a b (pr % 256 / 8 * 8) gr is = true) (hmk : maskP 1 p1 = mk) (hlv : bits .and .i64 (pr % 256 / 8 * 8) mk = lv) (h8 : lv / 8 * 8 = lv)
    (hx : setA .or a gr lv = x) (hy : setB .or b gr lv = y) (htop : top x y = (lv, 1)) (hm1 : mayP m p0 p1 o0 o1 x y (pr % 256 / 8 * 8) gr is = false)
    (hm2 : mayP m p0 p1 o0 o1 x y (bits .or .i64 (pr % 256 / 8 * 8) (bits .and .i64 pr2 7)) gr is2 = false) (hd : dropB' x y 1 = true) (hda : dropA x y = a) (hdb : dropB x y = b) (bq : Bool) (hq : ((1 : Int) != gr) = bq) :
    Calls Try.prog 3 #[.agg #[.int .i64 m, .int .i64 p0, .int .i64 p1, .bool o0, .bool o1, .bool sp, .int .u32 a, .int .u32 b], .agg #[.int .i64 id, .int .i64 pr, .int .i64 gr, .bool is], .agg #[.int .i64 id2, .int .i64 pr2, .int .i64 gr2, .bool is2]] w fun e w' => e = .returned (.bool true) ∧ Below w.heap.size w w' := by
  have HAW := Lib.hid (fun W : World => awake_c W)
  have HTK := Lib.hid (fun (W : World) (h : isRow W w.heap.size) (h' : rowAt W w.heap.size = #[.int .i64 m, .int .i64 p0, .int .i64 p1, .bool o0, .bool o1, .bool sp, .int .u32 a, .int .u32 b]) => Take_yes w.heap.size m p0 p1 o0 o1 sp a b id (pr % 256 / 8 * 8) gr is W h h' hm mk (by rw [hg, show ptP p0 p1 gr = p1 by unfold ptP; rw [hg]; rfl]; exact hmk) x y (by rw [hlv]; exact hx) (by rw [hlv]; exact hy))
  have HMA := Lib.hid (fun W : World => (Mask_c 1 p1 W).mono fun _ _ h => bs h)
  rw [hmk] at HMA
  have HRU := Lib.hid (fun W : World => ifrun_c m p0 p1 o0 o1 sp x y W)
  rw [htop] at HRU
  have HM1 := Lib.hid (fun W : World => May_c m p0 p1 o0 o1 sp x y id (pr % 256 / 8 * 8) gr is W)
  rw [hm1] at HM1
  have HM2 := Lib.hid (fun W : World => May_c m p0 p1 o0 o1 sp x y id2 (bits .or .i64 (pr % 256 / 8 * 8) (bits .and .i64 pr2 7)) gr is2 W)
  rw [hm2] at HM2
  have HDR := Lib.hid (show ∀ (W : World) (h : isRow W w.heap.size) (h' : rowAt W w.heap.size = #[.int .i64 m, .int .i64 p0, .int .i64 p1, .bool o0, .bool o1, .bool sp, .int .u32 x, .int .u32 y]), Calls Try.prog 14 #[.pointer (some ⟨w.heap.size, 0, none⟩), .int .i64 1] W fun e w' => e = .returned (.bool true) ∧ Row w' w.heap.size #[.int .i64 m, .int .i64 p0, .int .i64 p1, .bool o0, .bool o1, .bool sp, .int .u32 a, .int .u32 b] ∧ Aside w.heap.size W w' from fun W h h' => by
    have := IfDrop_c w.heap.size m p0 p1 o0 o1 sp x y 1 W h h'
    rw [hd, if_pos rfl, if_pos rfl, hda, hdb] at this
    exact this)
  have HLV := Lib.hid hlv
  have H8 := Lib.hid h8
  have HQ := Lib.hid hq
  have h1 := and1 gr
  rw [hg] at h1
  have HG := Lib.hid h1
  clear hm hmk hlv h8 hx hy htop hm1 hm2 hd hda hdb hq hg h1
  have hB_0 : Below w.heap.size w w := Below.refl _ _
  have ne_F_C : ¬ w.heap.size = (w.heap.size + 1) := by omega
  have en_F_C : ¬ (w.heap.size + 1) = w.heap.size := by omega
  have ne_F_D : ¬ w.heap.size = (w.heap.size + 2) := by omega
  have en_F_D : ¬ (w.heap.size + 2) = w.heap.size := by omega
  have ne_C_D : ¬ (w.heap.size + 1) = (w.heap.size + 2) := by omega
  have en_C_D : ¬ (w.heap.size + 2) = (w.heap.size + 1) := by omega
  go_enter Try.func3, Try.ntmps3
  go_wp2_with fail
  refine (HAW.out _).mono ?_
  rintro e v1 ⟨rfl, hb1⟩
  obtain ⟨F_1, F_1'⟩ : Row v1 w.heap.size #[.int .i64 m, .int .i64 p0, .int .i64 p1, .bool o0, .bool o1, .bool sp, .int .u32 a, .int .u32 b] := Row.step (by go_simp) (by go_simp) hb1
  obtain ⟨C_1, C_1'⟩ : Row v1 (w.heap.size + 1) #[.int .i64 id, .int .i64 pr, .int .i64 gr, .bool is] := Row.step (by go_simp) (by go_simp) hb1
  obtain ⟨D_1, D_1'⟩ : Row v1 (w.heap.size + 2) #[.int .i64 id2, .int .i64 pr2, .int .i64 gr2, .bool is2] := Row.step (by go_simp) (by go_simp) hb1
  have hB_1 : Below w.heap.size w v1 := bk (by go_simp) (by first | (go_simp; done) | (go_simp; omega) | exact Below.size (by assumption)) hb1
  clear hB_0 hb1
  have hz_1 : w.heap.size ≤ v1.heap.size := hB_1.size
  have hl_F_1 := isRow.lt F_1
  have ne_F_1_0 : ¬ w.heap.size = v1.heap.size := by omega
  have en_F_1_0 : ¬ v1.heap.size = w.heap.size := by omega
  have hl_C_1 := isRow.lt C_1
  have ne_C_1_0 : ¬ (w.heap.size + 1) = v1.heap.size := by omega
  have en_C_1_0 : ¬ v1.heap.size = (w.heap.size + 1) := by omega
  have hl_D_1 := isRow.lt D_1
  have ne_D_1_0 : ¬ (w.heap.size + 2) = v1.heap.size := by omega
  have en_D_1_0 : ¬ v1.heap.size = (w.heap.size + 2) := by omega
  have ne_F_W : ¬ w.heap.size = v1.heap.size := by omega
  have en_F_W : ¬ v1.heap.size = w.heap.size := by omega
  have ne_C_W : ¬ (w.heap.size + 1) = v1.heap.size := by omega
  have en_C_W : ¬ v1.heap.size = (w.heap.size + 1) := by omega
  have ne_D_W : ¬ (w.heap.size + 2) = v1.heap.size := by omega
  have en_D_W : ¬ v1.heap.size = (w.heap.size + 2) := by omega
  go_wp2_with fail
  refine (HTK.out _ (by go_simp) (by go_simp)).mono ?_
  rintro e v2 ⟨rfl, ⟨F_2, F_2'⟩, hA2⟩
  obtain ⟨C_2, C_2'⟩ : Row v2 (w.heap.size + 1) #[.int .i64 id, .int .i64 (pr % 256 / 8 * 8), .int .i64 gr, .bool is] := hA2.row ⟨by go_simp, by go_simp⟩ (by omega)
  obtain ⟨D_2, D_2'⟩ : Row v2 (w.heap.size + 2) #[.int .i64 id2, .int .i64 pr2, .int .i64 gr2, .bool is2] := hA2.row ⟨by go_simp, by go_simp⟩ (by omega)
  obtain ⟨W_2, W_2'⟩ : Row v2 v1.heap.size #[.int .i64 m, .int .i64 p0, .int .i64 p1, .bool o0, .bool o1, .bool sp, .int .u32 a, .int .u32 b] := hA2.row ⟨by go_simp, by go_simp⟩ (by omega)
  have hB_2 : Below w.heap.size w v2 := hA2.below (by go_simp) (by first | omega | (go_simp; done) | (go_simp; omega)) (by first | (go_simp; done) | (go_simp; omega) | exact Below.size (by assumption))
  clear F_1 F_1' C_1 C_1' D_1 D_1' hB_1 hA2
  have hz_2 : w.heap.size ≤ v2.heap.size := hB_2.size
  have hl_F_2 := isRow.lt F_2
  have ne_F_2_0 : ¬ w.heap.size = v2.heap.size := by omega
  have en_F_2_0 : ¬ v2.heap.size = w.heap.size := by omega
  have hl_C_2 := isRow.lt C_2
  have ne_C_2_0 : ¬ (w.heap.size + 1) = v2.heap.size := by omega
  have en_C_2_0 : ¬ v2.heap.size = (w.heap.size + 1) := by omega
  have hl_D_2 := isRow.lt D_2
  have ne_D_2_0 : ¬ (w.heap.size + 2) = v2.heap.size := by omega
  have en_D_2_0 : ¬ v2.heap.size = (w.heap.size + 2) := by omega
  have hl_W_2 := isRow.lt W_2
  have ne_W_2_0 : ¬ v1.heap.size = v2.heap.size := by omega
  have en_W_2_0 : ¬ v2.heap.size = v1.heap.size := by omega
  have h1 := HG.out
  go_wp2_with fail
  (first | go_region_held3 (fun w' => isRow w' w.heap.size ∧ rowAt w' w.heap.size = #[.int .i64 m, .int .i64 p0, .int .i64 p1, .bool o0, .bool o1, .bool sp, .int .u32 x, .int .u32 y] ∧ isRow w' (w.heap.size + 1) ∧ rowAt w' (w.heap.size + 1) = #[.int .i64 id, .int .i64 (pr % 256 / 8 * 8), .int .i64 gr, .bool is] ∧ isRow w' (w.heap.size + 2) ∧ rowAt w' (w.heap.size + 2) = #[.int .i64 id2, .int .i64 pr2, .int .i64 gr2, .bool is2] ∧ isRow w' v1.heap.size ∧ rowAt w' v1.heap.size = #[.int .i64 m, .int .i64 p0, .int .i64 p1, .bool o0, .bool o1, .bool sp, .int .u32 a, .int .u32 b] ∧ Below w.heap.size w w')
    (first | exact ⟨F_2, F_2', C_2, C_2', D_2, D_2', W_2, W_2', below_drew0 hB_2⟩ | (go_split_ands; exact ⟨rk1 (by assumption) hb, rk2 (by assumption) (by assumption) hb, rk1 (by assumption) hb, rk2 (by assumption) (by assumption) hb, rk1 (by assumption) hb, rk2 (by assumption) (by assumption) hb, rk1 (by assumption) hb, rk2 (by assumption) (by assumption) hb, bk (by assumption) (Below.size (by assumption)) hb⟩))
    ((first | (go_at_call 11; (with_reducible refine (HMA.out _).mono ?_); rintro e w4 ⟨rfl, hb⟩))) | fail)
  go_split_ands
  go_wp2_with fail
  refine (HRU.out _).mono ?_
  rintro e v3 ⟨rfl, hb3⟩
  obtain ⟨F_3, F_3'⟩ : Row v3 w.heap.size #[.int .i64 m, .int .i64 p0, .int .i64 p1, .bool o0, .bool o1, .bool sp, .int .u32 x, .int .u32 y] := Row.step (by go_simp) (by go_simp) hb3
  obtain ⟨C_3, C_3'⟩ : Row v3 (w.heap.size + 1) #[.int .i64 id, .int .i64 (pr % 256 / 8 * 8), .int .i64 gr, .bool is] := Row.step (by go_simp) (by go_simp) hb3
  obtain ⟨D_3, D_3'⟩ : Row v3 (w.heap.size + 2) #[.int .i64 id2, .int .i64 pr2, .int .i64 gr2, .bool is2] := Row.step (by go_simp) (by go_simp) hb3
  obtain ⟨W_3, W_3'⟩ : Row v3 v1.heap.size #[.int .i64 m, .int .i64 p0, .int .i64 p1, .bool o0, .bool o1, .bool sp, .int .u32 a, .int .u32 b] := Row.step (by go_simp) (by go_simp) hb3
  have hB_3 : Below w.heap.size w v3 := bk (by go_simp) (by first | (go_simp; done) | (go_simp; omega) | exact Below.size (by assumption)) hb3
  clear hb3
  have hz_3 : w.heap.size ≤ v3.heap.size := hB_3.size
  have hl_F_3 := isRow.lt F_3
  have ne_F_3_0 : ¬ w.heap.size = v3.heap.size := by omega
  have en_F_3_0 : ¬ v3.heap.size = w.heap.size := by omega
  have hl_C_3 := isRow.lt C_3
  have ne_C_3_0 : ¬ (w.heap.size + 1) = v3.heap.size := by omega
  have en_C_3_0 : ¬ v3.heap.size = (w.heap.size + 1) := by omega
  have hl_D_3 := isRow.lt D_3
  have ne_D_3_0 : ¬ (w.heap.size + 2) = v3.heap.size := by omega
  have en_D_3_0 : ¬ v3.heap.size = (w.heap.size + 2) := by omega
  have hl_W_3 := isRow.lt W_3
  have ne_W_3_0 : ¬ v1.heap.size = v3.heap.size := by omega
  have en_W_3_0 : ¬ v3.heap.size = v1.heap.size := by omega
  have h1 := HG.out
  have hlv := HLV.out
  have h8 := H8.out
  go_wp2_with fail
  clear hlv h8
  refine wp_named (fun W_ => (isRow W_ w.heap.size ∧ rowAt W_ w.heap.size = #[.int .i64 m, .int .i64 p0, .int .i64 p1, .bool o0, .bool o1, .bool sp, .int .u32 x, .int .u32 y]) ∧ (isRow W_ (w.heap.size + 1) ∧ rowAt W_ (w.heap.size + 1) = #[.int .i64 id, .int .i64 (pr % 256 / 8 * 8), .int .i64 gr, .bool is]) ∧ (isRow W_ (w.heap.size + 2) ∧ rowAt W_ (w.heap.size + 2) = #[.int .i64 id2, .int .i64 pr2, .int .i64 gr2, .bool is2]) ∧ (isRow W_ v1.heap.size ∧ rowAt W_ v1.heap.size = #[.int .i64 m, .int .i64 p0, .int .i64 p1, .bool o0, .bool o1, .bool sp, .int .u32 a, .int .u32 b]) ∧ Below w.heap.size w W_) (by refine ⟨⟨by go_simp, by go_simp⟩, ⟨by go_simp, by go_simp⟩, ⟨by go_simp, by go_simp⟩, ⟨by go_simp, by go_simp⟩, by go_simp⟩) ?_
  rintro v4 ⟨⟨F_4, F_4'⟩, ⟨C_4, C_4'⟩, ⟨D_4, D_4'⟩, ⟨W_4, W_4'⟩, hB_4⟩
  clear F_3 F_3' C_3 C_3' D_3 D_3' W_3 W_3' hB_3
  have hz_4 : w.heap.size ≤ v4.heap.size := hB_4.size
  have hl_F_4 := isRow.lt F_4
  have ne_F_4_0 : ¬ w.heap.size = v4.heap.size := by omega
  have en_F_4_0 : ¬ v4.heap.size = w.heap.size := by omega
  have hl_C_4 := isRow.lt C_4
  have ne_C_4_0 : ¬ (w.heap.size + 1) = v4.heap.size := by omega
  have en_C_4_0 : ¬ v4.heap.size = (w.heap.size + 1) := by omega
  have hl_D_4 := isRow.lt D_4
  have ne_D_4_0 : ¬ (w.heap.size + 2) = v4.heap.size := by omega
  have en_D_4_0 : ¬ v4.heap.size = (w.heap.size + 2) := by omega
  have hl_W_4 := isRow.lt W_4
  have ne_W_4_0 : ¬ v1.heap.size = v4.heap.size := by omega
  have en_W_4_0 : ¬ v4.heap.size = v1.heap.size := by omega
  go_region
  all_goals
    refine exit_named (fun W_ => (isRow W_ w.heap.size ∧ rowAt W_ w.heap.size = #[.int .i64 m, .int .i64 p0, .int .i64 p1, .bool o0, .bool o1, .bool sp, .int .u32 x, .int .u32 y]) ∧ (isRow W_ (w.heap.size + 1) ∧ rowAt W_ (w.heap.size + 1) = #[.int .i64 id, .int .i64 (pr % 256 / 8 * 8), .int .i64 gr, .bool is]) ∧ (isRow W_ (w.heap.size + 2) ∧ rowAt W_ (w.heap.size + 2) = #[.int .i64 id2, .int .i64 (bits .or .i64 (pr % 256 / 8 * 8) (bits .and .i64 pr2 7)), .int .i64 gr, .bool is2]) ∧ (isRow W_ v1.heap.size ∧ rowAt W_ v1.heap.size = #[.int .i64 m, .int .i64 p0, .int .i64 p1, .bool o0, .bool o1, .bool sp, .int .u32 a, .int .u32 b]) ∧ Below w.heap.size w W_) (by refine ⟨⟨by go_simp, by go_simp⟩, ⟨by go_simp, by go_simp⟩, ⟨by go_simp, by go_simp⟩, ⟨by go_simp, by go_simp⟩, by go_simp⟩) ?_
    rintro v5 ⟨⟨F_5, F_5'⟩, ⟨C_5, C_5'⟩, ⟨D_5, D_5'⟩, ⟨W_5, W_5'⟩, hB_5⟩
    clear F_4 F_4' C_4 C_4' D_4 D_4' W_4 W_4' hB_4
    have hz_5 : w.heap.size ≤ v5.heap.size := hB_5.size
    have hl_F_5 := isRow.lt F_5
    have ne_F_5_0 : ¬ w.heap.size = v5.heap.size := by omega
    have en_F_5_0 : ¬ v5.heap.size = w.heap.size := by omega
    have hl_C_5 := isRow.lt C_5
    have ne_C_5_0 : ¬ (w.heap.size + 1) = v5.heap.size := by omega
    have en_C_5_0 : ¬ v5.heap.size = (w.heap.size + 1) := by omega
    have hl_D_5 := isRow.lt D_5
    have ne_D_5_0 : ¬ (w.heap.size + 2) = v5.heap.size := by omega
    have en_D_5_0 : ¬ v5.heap.size = (w.heap.size + 2) := by omega
    have hl_W_5 := isRow.lt W_5
    have ne_W_5_0 : ¬ v1.heap.size = v5.heap.size := by omega
    have en_W_5_0 : ¬ v5.heap.size = v1.heap.size := by omega
    go_wp2_with fail
    refine (HM1.out _).mono ?_
    rintro e v6 ⟨rfl, hb6⟩
    obtain ⟨F_6, F_6'⟩ : Row v6 w.heap.size #[.int .i64 m, .int .i64 p0, .int .i64 p1, .bool o0, .bool o1, .bool sp, .int .u32 x, .int .u32 y] := Row.step (by go_simp) (by go_simp) hb6
    obtain ⟨C_6, C_6'⟩ : Row v6 (w.heap.size + 1) #[.int .i64 id, .int .i64 (pr % 256 / 8 * 8), .int .i64 gr, .bool is] := Row.step (by go_simp) (by go_simp) hb6
    obtain ⟨D_6, D_6'⟩ : Row v6 (w.heap.size + 2) #[.int .i64 id2, .int .i64 (bits .or .i64 (pr % 256 / 8 * 8) (bits .and .i64 pr2 7)), .int .i64 gr, .bool is2] := Row.step (by go_simp) (by go_simp) hb6
    obtain ⟨W_6, W_6'⟩ : Row v6 v1.heap.size #[.int .i64 m, .int .i64 p0, .int .i64 p1, .bool o0, .bool o1, .bool sp, .int .u32 a, .int .u32 b] := Row.step (by go_simp) (by go_simp) hb6
    have hB_6 : Below w.heap.size w v6 := bk (by go_simp) (by first | (go_simp; done) | (go_simp; omega) | exact Below.size (by assumption)) hb6
    clear F_5 F_5' C_5 C_5' D_5 D_5' W_5 W_5' hB_5 hb6
    have hz_6 : w.heap.size ≤ v6.heap.size := hB_6.size
    have hl_F_6 := isRow.lt F_6
    have ne_F_6_0 : ¬ w.heap.size = v6.heap.size := by omega
    have en_F_6_0 : ¬ v6.heap.size = w.heap.size := by omega
    have hl_C_6 := isRow.lt C_6
    have ne_C_6_0 : ¬ (w.heap.size + 1) = v6.heap.size := by omega
    have en_C_6_0 : ¬ v6.heap.size = (w.heap.size + 1) := by omega
    have hl_D_6 := isRow.lt D_6
    have ne_D_6_0 : ¬ (w.heap.size + 2) = v6.heap.size := by omega
    have en_D_6_0 : ¬ v6.heap.size = (w.heap.size + 2) := by omega
    have hl_W_6 := isRow.lt W_6
    have ne_W_6_0 : ¬ v1.heap.size = v6.heap.size := by omega
    have en_W_6_0 : ¬ v6.heap.size = v1.heap.size := by omega
    go_wp2_with fail
    refine (HM2.out _).mono ?_
    rintro e v7 ⟨rfl, hb7⟩
    obtain ⟨F_7, F_7'⟩ : Row v7 w.heap.size #[.int .i64 m, .int .i64 p0, .int .i64 p1, .bool o0, .bool o1, .bool sp, .int .u32 x, .int .u32 y] := Row.step (by go_simp) (by go_simp) hb7
    obtain ⟨C_7, C_7'⟩ : Row v7 (w.heap.size + 1) #[.int .i64 id, .int .i64 (pr % 256 / 8 * 8), .int .i64 gr, .bool is] := Row.step (by go_simp) (by go_simp) hb7
    obtain ⟨D_7, D_7'⟩ : Row v7 (w.heap.size + 2) #[.int .i64 id2, .int .i64 (bits .or .i64 (pr % 256 / 8 * 8) (bits .and .i64 pr2 7)), .int .i64 gr, .bool is2] := Row.step (by go_simp) (by go_simp) hb7
    obtain ⟨W_7, W_7'⟩ : Row v7 v1.heap.size #[.int .i64 m, .int .i64 p0, .int .i64 p1, .bool o0, .bool o1, .bool sp, .int .u32 a, .int .u32 b] := Row.step (by go_simp) (by go_simp) hb7
    have hB_7 : Below w.heap.size w v7 := bk (by go_simp) (by first | (go_simp; done) | (go_simp; omega) | exact Below.size (by assumption)) hb7
    clear F_6 F_6' C_6 C_6' D_6 D_6' W_6 W_6' hB_6 hb7
    have hz_7 : w.heap.size ≤ v7.heap.size := hB_7.size
    have hl_F_7 := isRow.lt F_7
    have ne_F_7_0 : ¬ w.heap.size = v7.heap.size := by omega
    have en_F_7_0 : ¬ v7.heap.size = w.heap.size := by omega
    have hl_C_7 := isRow.lt C_7
    have ne_C_7_0 : ¬ (w.heap.size + 1) = v7.heap.size := by omega
    have en_C_7_0 : ¬ v7.heap.size = (w.heap.size + 1) := by omega
    have hl_D_7 := isRow.lt D_7
    have ne_D_7_0 : ¬ (w.heap.size + 2) = v7.heap.size := by omega
    have en_D_7_0 : ¬ v7.heap.size = (w.heap.size + 2) := by omega
    have hl_W_7 := isRow.lt W_7
    have ne_W_7_0 : ¬ v1.heap.size = v7.heap.size := by omega
    have en_W_7_0 : ¬ v7.heap.size = v1.heap.size := by omega
    have h1 := HG.out
    have hq := HQ.out
    cases bq
    · skip
      go_wp2_with fail
      refine (HDR.out _ (by go_simp) (by go_simp)).mono ?_
      rintro e v8 ⟨rfl, ⟨F_8, F_8'⟩, hA8⟩
      obtain ⟨C_8, C_8'⟩ : Row v8 (w.heap.size + 1) #[.int .i64 id, .int .i64 (pr % 256 / 8 * 8), .int .i64 gr, .bool is] := hA8.row ⟨by go_simp, by go_simp⟩ (by omega)
      obtain ⟨D_8, D_8'⟩ : Row v8 (w.heap.size + 2) #[.int .i64 id2, .int .i64 (bits .or .i64 (pr % 256 / 8 * 8) (bits .and .i64 pr2 7)), .int .i64 gr, .bool is2] := hA8.row ⟨by go_simp, by go_simp⟩ (by omega)
      obtain ⟨W_8, W_8'⟩ : Row v8 v1.heap.size #[.int .i64 m, .int .i64 p0, .int .i64 p1, .bool o0, .bool o1, .bool sp, .int .u32 a, .int .u32 b] := hA8.row ⟨by go_simp, by go_simp⟩ (by omega)
      have hB_8 : Below w.heap.size w v8 := hA8.below (by go_simp) (by first | omega | (go_simp; done) | (go_simp; omega)) (by first | (go_simp; done) | (go_simp; omega) | exact Below.size (by assumption))
      clear F_7 F_7' C_7 C_7' D_7 D_7' W_7 W_7' hB_7 hA8
      have hz_8 : w.heap.size ≤ v8.heap.size := hB_8.size
      have hl_F_8 := isRow.lt F_8
      have ne_F_8_0 : ¬ w.heap.size = v8.heap.size := by omega
      have en_F_8_0 : ¬ v8.heap.size = w.heap.size := by omega
      have hl_C_8 := isRow.lt C_8
      have ne_C_8_0 : ¬ (w.heap.size + 1) = v8.heap.size := by omega
      have en_C_8_0 : ¬ v8.heap.size = (w.heap.size + 1) := by omega
      have hl_D_8 := isRow.lt D_8
      have ne_D_8_0 : ¬ (w.heap.size + 2) = v8.heap.size := by omega
      have en_D_8_0 : ¬ v8.heap.size = (w.heap.size + 2) := by omega
      have hl_W_8 := isRow.lt W_8
      have ne_W_8_0 : ¬ v1.heap.size = v8.heap.size := by omega
      have en_W_8_0 : ¬ v8.heap.size = v1.heap.size := by omega
      go_wp2
      go_ret
      exact ⟨rfl, by assumption⟩
    · go_wp2
      go_ret
      exact ⟨rfl, by assumption⟩
end Go.Proofs.Ytpjenhojldcmiaa
