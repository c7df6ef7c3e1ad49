/- The walk by hand of the law CpuifGroups of layer 14. -/
import Derived.Test.YtpjenhojldcmiaaAw
import Derived.Test.YtpjenhojldcmiaaBk4
import Derived.Test.YtpjenhojldcmiaaSem14b
import Derived.Deep.RegionHeld3
import Derived.Deep.RegionWith
namespace Go.Proofs.Ytpjenhojldcmiaa
open Go.RowKit Go.Shelf
attribute [local go_sem] Oper.semAt_some cell_row frozen_row isRow_setCell_eq rowAt_setCell_same rowAt_setCell_other isRow_alloc_eq rowAt_alloc rowAt_new rowAt_new' isRow_setRow_eq rowAt_setRow_same rowAt_setRow_other isRow_drew rowAt_drew size_setRow_ Lb_size Lb_at blk_ptr aggOf_agg below_alloc_e below_setCell_e below_setRow_e below_refl_e below_drew_r le_add_r offv_ptr one_lad zero_lad allOne_nil allOne_cons Value.oneCell'
attribute [local go_sem ↓] storeI storeC
attribute [local go_sem] eq2i eq2b eq2u
set_option maxRecDepth 100000 in
set_option maxHeartbeats 4000000 in
theorem groups_C0 (m p0 p1 : Int) (o0 o1 sp : Bool) (a b : Int) (id pr gr : Int) (is : Bool) (gp : Int) (w : World) (x y p run D : Int) (hg : gp % 2 = 0) (ha : U32 a) (hb : U32 b)
    (hm : mayP m p0 p1 false o1 a b pr gp is = false) (hs : showsP false o1 id gp is gp = 1023) (htop : top a b = (p, run)) (hp : (p != 255) = true) (hd : dropB' a b gp = true) (hrun : (run == gp) = true) (hx : dropA a b = x) (hy : dropB a b = y) (hw : U32 x) (hxy : y = b) (hD : ((pop a 32 + pop b 32 : Nat) : Int) = D) (hD' : ((pop x 32 + pop b 32 : Nat) : Int) = D - 1) (hD1 : 1 ≤ D) (hD2 : D ≤ 64) :
    Calls Try.prog 7 #[.agg #[.int .i64 m, .int .i64 p0, .int .i64 p1, .bool o0, .bool o1, .bool sp, .int .u32 a, .int .u32 b], .agg #[.int .i64 id, .int .i64 pr, .int .i64 gr, .bool is], .int .i64 gp] w fun e w' => e = .returned (.bool true) ∧ Below w.heap.size w w' := by
  have HAW := Lib.hid (fun W : World => awake_c W)
  have HTK := Lib.hid (fun (W : World) (g : Nat) (h : isRow W g) (h' : rowAt W g = #[.int .i64 m, .int .i64 p0, .int .i64 p1, .bool false, .bool o1, .bool sp, .int .u32 a, .int .u32 b]) => Take_no1 g m p0 p1 false o1 sp a b id pr gp is gp W h h' hm)
  have HSH := Lib.hid (fun W : World => Shows_c m p0 p1 false o1 sp a b id pr gp is gp W)
  rw [hs] at HSH
  have HMA := Lib.hid (fun W : World => May_c m p0 p1 false o1 sp a b id pr gp is W)
  rw [hm] at HMA
  have HRU := Lib.hid (fun W : World => ifrun_c m p0 p1 o0 o1 sp a b W)
  rw [htop] at HRU
  have HDR := Lib.hid (show ∀ (W : World) (g : Nat) (h : isRow W g) (h' : rowAt W g = #[.int .i64 m, .int .i64 p0, .int .i64 p1, .bool o0, .bool o1, .bool sp, .int .u32 a, .int .u32 b]), Calls Try.prog 14 #[.pointer (some ⟨g, 0, none⟩), .int .i64 gp] W fun e w' => e = .returned (.bool true) ∧ Row w' g #[.int .i64 m, .int .i64 p0, .int .i64 p1, .bool o0, .bool o1, .bool sp, .int .u32 x, .int .u32 b] ∧ Aside g W w' from fun W g h h' => by
    have := IfDrop_c g m p0 p1 o0 o1 sp a b gp W h h'
    rw [hd] at this
    rw [if_pos rfl, if_pos rfl, hx, hy, hxy] at this
    exact this)
  have HDF := Lib.hid (fun W : World => Depth_c m p0 p1 o0 o1 sp a b ha hb W)
  rw [hD] at HDF
  have HDH := Lib.hid (fun W : World => Depth_c m p0 p1 o0 o1 sp x b hw hb W)
  rw [hD'] at HDH
  have HP := Lib.hid hp
  have HRN := Lib.hid hrun
  have HG := Lib.hid (show bits .and .i64 gp 1 = 0 by rw [and1]; exact hg)
  clear hm hs htop hg ha hb hd hx hy hw hxy hD hD' hp hrun
  have hB_0 : Below w.heap.size w w := Below.refl _ _
  have ne_F_C : ¬ w.heap.size = (w.heap.size + 1) := by omega
  have en_F_C : ¬ (w.heap.size + 1) = w.heap.size := by omega
  go_enter Try.func7, Try.ntmps7
  go_wp2_with fail
  refine (HAW.out _).mono ?_
  rintro e v1 ⟨rfl, hb1⟩
  obtain ⟨F_1, F_1'⟩ : Row v1 w.heap.size #[.int .i64 m, .int .i64 p0, .int .i64 p1, .bool o0, .bool o1, .bool sp, .int .u32 a, .int .u32 b] := Row.step (by go_simp) (by go_simp) hb1
  obtain ⟨C_1, C_1'⟩ : Row v1 (w.heap.size + 1) #[.int .i64 id, .int .i64 pr, .int .i64 gr, .bool is] := Row.step (by go_simp) (by go_simp) hb1
  have hB_1 : Below w.heap.size w v1 := bk (by go_simp) (by first | (go_simp; done) | (go_simp; omega) | exact Below.size (by assumption)) hb1
  clear hB_0 hb1
  have hz_1 : w.heap.size ≤ v1.heap.size := hB_1.size
  have hl_F_1 := isRow.lt F_1
  have ne_F_1_0 : ¬ w.heap.size = v1.heap.size := by omega
  have en_F_1_0 : ¬ v1.heap.size = w.heap.size := by omega
  have ne_F_1_1 : ¬ w.heap.size = v1.heap.size + 1 := by omega
  have en_F_1_1 : ¬ v1.heap.size + 1 = w.heap.size := by omega
  have hl_C_1 := isRow.lt C_1
  have ne_C_1_0 : ¬ (w.heap.size + 1) = v1.heap.size := by omega
  have en_C_1_0 : ¬ v1.heap.size = (w.heap.size + 1) := by omega
  have ne_C_1_1 : ¬ (w.heap.size + 1) = v1.heap.size + 1 := by omega
  have en_C_1_1 : ¬ v1.heap.size + 1 = (w.heap.size + 1) := by omega
  have h1 := HG.out
  have ne_F_G : ¬ w.heap.size = v1.heap.size := by omega
  have en_F_G : ¬ v1.heap.size = w.heap.size := by omega
  have ne_C_G : ¬ (w.heap.size + 1) = v1.heap.size := by omega
  have en_C_G : ¬ v1.heap.size = (w.heap.size + 1) := by omega
  have ne_F_W : ¬ w.heap.size = (v1.heap.size + 1) := by omega
  have en_F_W : ¬ (v1.heap.size + 1) = w.heap.size := by omega
  have ne_C_W : ¬ (w.heap.size + 1) = (v1.heap.size + 1) := by omega
  have en_C_W : ¬ (v1.heap.size + 1) = (w.heap.size + 1) := by omega
  have ne_G_W : ¬ v1.heap.size = (v1.heap.size + 1) := by omega
  have en_G_W : ¬ (v1.heap.size + 1) = v1.heap.size := by omega
  go_wp2_with fail
  refine (HTK.out _ v1.heap.size (by go_simp) (by go_simp)).mono ?_
  rintro e v2 ⟨rfl, hb2⟩
  obtain ⟨F_2, F_2'⟩ : Row v2 w.heap.size #[.int .i64 m, .int .i64 p0, .int .i64 p1, .bool o0, .bool o1, .bool sp, .int .u32 a, .int .u32 b] := Row.step (by go_simp) (by go_simp) hb2
  obtain ⟨C_2, C_2'⟩ : Row v2 (w.heap.size + 1) #[.int .i64 id, .int .i64 pr, .int .i64 gp, .bool is] := Row.step (by go_simp) (by go_simp) hb2
  obtain ⟨G_2, G_2'⟩ : Row v2 v1.heap.size #[.int .i64 m, .int .i64 p0, .int .i64 p1, .bool false, .bool o1, .bool sp, .int .u32 a, .int .u32 b] := Row.step (by go_simp) (by go_simp) hb2
  obtain ⟨W_2, W_2'⟩ : Row v2 (v1.heap.size + 1) #[.int .i64 m, .int .i64 p0, .int .i64 p1, .bool false, .bool o1, .bool sp, .int .u32 a, .int .u32 b] := Row.step (by go_simp) (by go_simp) hb2
  have hB_2 : Below w.heap.size w v2 := bk (by go_simp) (by first | (go_simp; done) | (go_simp; omega) | exact Below.size (by assumption)) hb2
  clear F_1 F_1' C_1 C_1' hB_1 hb2
  have hz_2 : w.heap.size ≤ v2.heap.size := hB_2.size
  have hl_F_2 := isRow.lt F_2
  have ne_F_2_0 : ¬ w.heap.size = v2.heap.size := by omega
  have en_F_2_0 : ¬ v2.heap.size = w.heap.size := by omega
  have hl_C_2 := isRow.lt C_2
  have ne_C_2_0 : ¬ (w.heap.size + 1) = v2.heap.size := by omega
  have en_C_2_0 : ¬ v2.heap.size = (w.heap.size + 1) := by omega
  have hl_G_2 := isRow.lt G_2
  have ne_G_2_0 : ¬ v1.heap.size = v2.heap.size := by omega
  have en_G_2_0 : ¬ v2.heap.size = v1.heap.size := by omega
  have hl_W_2 := isRow.lt W_2
  have ne_W_2_0 : ¬ (v1.heap.size + 1) = v2.heap.size := by omega
  have en_W_2_0 : ¬ v2.heap.size = (v1.heap.size + 1) := by omega
  go_wp2_with fail
  refine (HSH.out _).mono ?_
  rintro e v3 ⟨rfl, hb3⟩
  obtain ⟨F_3, F_3'⟩ : Row v3 w.heap.size #[.int .i64 m, .int .i64 p0, .int .i64 p1, .bool o0, .bool o1, .bool sp, .int .u32 a, .int .u32 b] := Row.step (by go_simp) (by go_simp) hb3
  obtain ⟨C_3, C_3'⟩ : Row v3 (w.heap.size + 1) #[.int .i64 id, .int .i64 pr, .int .i64 gp, .bool is] := Row.step (by go_simp) (by go_simp) hb3
  obtain ⟨G_3, G_3'⟩ : Row v3 v1.heap.size #[.int .i64 m, .int .i64 p0, .int .i64 p1, .bool false, .bool o1, .bool sp, .int .u32 a, .int .u32 b] := Row.step (by go_simp) (by go_simp) hb3
  obtain ⟨W_3, W_3'⟩ : Row v3 (v1.heap.size + 1) #[.int .i64 m, .int .i64 p0, .int .i64 p1, .bool false, .bool o1, .bool sp, .int .u32 a, .int .u32 b] := Row.step (by go_simp) (by go_simp) hb3
  have hB_3 : Below w.heap.size w v3 := bk (by go_simp) (by first | (go_simp; done) | (go_simp; omega) | exact Below.size (by assumption)) hb3
  clear F_2 F_2' C_2 C_2' G_2 G_2' W_2 W_2' hB_2 hb3
  have hz_3 : w.heap.size ≤ v3.heap.size := hB_3.size
  have hl_F_3 := isRow.lt F_3
  have ne_F_3_0 : ¬ w.heap.size = v3.heap.size := by omega
  have en_F_3_0 : ¬ v3.heap.size = w.heap.size := by omega
  have hl_C_3 := isRow.lt C_3
  have ne_C_3_0 : ¬ (w.heap.size + 1) = v3.heap.size := by omega
  have en_C_3_0 : ¬ v3.heap.size = (w.heap.size + 1) := by omega
  have hl_G_3 := isRow.lt G_3
  have ne_G_3_0 : ¬ v1.heap.size = v3.heap.size := by omega
  have en_G_3_0 : ¬ v3.heap.size = v1.heap.size := by omega
  have hl_W_3 := isRow.lt W_3
  have ne_W_3_0 : ¬ (v1.heap.size + 1) = v3.heap.size := by omega
  have en_W_3_0 : ¬ v3.heap.size = (v1.heap.size + 1) := by omega
  go_wp2_with fail
  refine (HMA.out _).mono ?_
  rintro e v4 ⟨rfl, hb4⟩
  obtain ⟨F_4, F_4'⟩ : Row v4 w.heap.size #[.int .i64 m, .int .i64 p0, .int .i64 p1, .bool o0, .bool o1, .bool sp, .int .u32 a, .int .u32 b] := Row.step (by go_simp) (by go_simp) hb4
  obtain ⟨C_4, C_4'⟩ : Row v4 (w.heap.size + 1) #[.int .i64 id, .int .i64 pr, .int .i64 gp, .bool is] := Row.step (by go_simp) (by go_simp) hb4
  obtain ⟨G_4, G_4'⟩ : Row v4 v1.heap.size #[.int .i64 m, .int .i64 p0, .int .i64 p1, .bool false, .bool o1, .bool sp, .int .u32 a, .int .u32 b] := Row.step (by go_simp) (by go_simp) hb4
  obtain ⟨W_4, W_4'⟩ : Row v4 (v1.heap.size + 1) #[.int .i64 m, .int .i64 p0, .int .i64 p1, .bool false, .bool o1, .bool sp, .int .u32 a, .int .u32 b] := Row.step (by go_simp) (by go_simp) hb4
  have hB_4 : Below w.heap.size w v4 := bk (by go_simp) (by first | (go_simp; done) | (go_simp; omega) | exact Below.size (by assumption)) hb4
  clear F_3 F_3' C_3 C_3' G_3 G_3' W_3 W_3' hB_3 hb4
  have hz_4 : w.heap.size ≤ v4.heap.size := hB_4.size
  have hl_F_4 := isRow.lt F_4
  have ne_F_4_0 : ¬ w.heap.size = v4.heap.size := by omega
  have en_F_4_0 : ¬ v4.heap.size = w.heap.size := by omega
  have hl_C_4 := isRow.lt C_4
  have ne_C_4_0 : ¬ (w.heap.size + 1) = v4.heap.size := by omega
  have en_C_4_0 : ¬ v4.heap.size = (w.heap.size + 1) := by omega
  have hl_G_4 := isRow.lt G_4
  have ne_G_4_0 : ¬ v1.heap.size = v4.heap.size := by omega
  have en_G_4_0 : ¬ v4.heap.size = v1.heap.size := by omega
  have hl_W_4 := isRow.lt W_4
  have ne_W_4_0 : ¬ (v1.heap.size + 1) = v4.heap.size := by omega
  have en_W_4_0 : ¬ v4.heap.size = (v1.heap.size + 1) := by omega
  have ne_F_H : ¬ w.heap.size = v4.heap.size := by omega
  have en_F_H : ¬ v4.heap.size = w.heap.size := by omega
  have ne_C_H : ¬ (w.heap.size + 1) = v4.heap.size := by omega
  have en_C_H : ¬ v4.heap.size = (w.heap.size + 1) := by omega
  have ne_G_H : ¬ v1.heap.size = v4.heap.size := by omega
  have en_G_H : ¬ v4.heap.size = v1.heap.size := by omega
  have ne_W_H : ¬ (v1.heap.size + 1) = v4.heap.size := by omega
  have en_W_H : ¬ v4.heap.size = (v1.heap.size + 1) := by omega
  clear h1
  go_wp2_with fail
  refine (HDR.out _ v4.heap.size (by go_simp) (by go_simp)).mono ?_
  rintro e v5 ⟨rfl, ⟨H_5, H_5'⟩, hA5⟩
  obtain ⟨F_5, F_5'⟩ : Row v5 w.heap.size #[.int .i64 m, .int .i64 p0, .int .i64 p1, .bool o0, .bool o1, .bool sp, .int .u32 a, .int .u32 b] := hA5.row ⟨by go_simp, by go_simp⟩ (by omega)
  obtain ⟨C_5, C_5'⟩ : Row v5 (w.heap.size + 1) #[.int .i64 id, .int .i64 pr, .int .i64 gp, .bool is] := hA5.row ⟨by go_simp, by go_simp⟩ (by omega)
  obtain ⟨G_5, G_5'⟩ : Row v5 v1.heap.size #[.int .i64 m, .int .i64 p0, .int .i64 p1, .bool false, .bool o1, .bool sp, .int .u32 a, .int .u32 b] := hA5.row ⟨by go_simp, by go_simp⟩ (by omega)
  obtain ⟨W_5, W_5'⟩ : Row v5 (v1.heap.size + 1) #[.int .i64 m, .int .i64 p0, .int .i64 p1, .bool false, .bool o1, .bool sp, .int .u32 a, .int .u32 b] := hA5.row ⟨by go_simp, by go_simp⟩ (by omega)
  have hB_5 : Below w.heap.size w v5 := hA5.below (by go_simp) (by first | omega | (go_simp; done) | (go_simp; omega)) (by first | (go_simp; done) | (go_simp; omega) | exact Below.size (by assumption))
  clear F_4 F_4' C_4 C_4' G_4 G_4' W_4 W_4' hB_4 hA5
  have hz_5 : w.heap.size ≤ v5.heap.size := hB_5.size
  have hl_F_5 := isRow.lt F_5
  have ne_F_5_0 : ¬ w.heap.size = v5.heap.size := by omega
  have en_F_5_0 : ¬ v5.heap.size = w.heap.size := by omega
  have hl_C_5 := isRow.lt C_5
  have ne_C_5_0 : ¬ (w.heap.size + 1) = v5.heap.size := by omega
  have en_C_5_0 : ¬ v5.heap.size = (w.heap.size + 1) := by omega
  have hl_G_5 := isRow.lt G_5
  have ne_G_5_0 : ¬ v1.heap.size = v5.heap.size := by omega
  have en_G_5_0 : ¬ v5.heap.size = v1.heap.size := by omega
  have hl_W_5 := isRow.lt W_5
  have ne_W_5_0 : ¬ (v1.heap.size + 1) = v5.heap.size := by omega
  have en_W_5_0 : ¬ v5.heap.size = (v1.heap.size + 1) := by omega
  have hl_H_5 := isRow.lt H_5
  have ne_H_5_0 : ¬ v4.heap.size = v5.heap.size := by omega
  have en_H_5_0 : ¬ v5.heap.size = v4.heap.size := by omega
  go_wp2_with fail
  refine (HRU.out _).mono ?_
  rintro e v6 ⟨rfl, hb6⟩
  obtain ⟨F_6, F_6'⟩ : Row v6 w.heap.size #[.int .i64 m, .int .i64 p0, .int .i64 p1, .bool o0, .bool o1, .bool sp, .int .u32 a, .int .u32 b] := Row.step (by go_simp) (by go_simp) hb6
  obtain ⟨C_6, C_6'⟩ : Row v6 (w.heap.size + 1) #[.int .i64 id, .int .i64 pr, .int .i64 gp, .bool is] := Row.step (by go_simp) (by go_simp) hb6
  obtain ⟨G_6, G_6'⟩ : Row v6 v1.heap.size #[.int .i64 m, .int .i64 p0, .int .i64 p1, .bool false, .bool o1, .bool sp, .int .u32 a, .int .u32 b] := Row.step (by go_simp) (by go_simp) hb6
  obtain ⟨W_6, W_6'⟩ : Row v6 (v1.heap.size + 1) #[.int .i64 m, .int .i64 p0, .int .i64 p1, .bool false, .bool o1, .bool sp, .int .u32 a, .int .u32 b] := Row.step (by go_simp) (by go_simp) hb6
  obtain ⟨H_6, H_6'⟩ : Row v6 v4.heap.size #[.int .i64 m, .int .i64 p0, .int .i64 p1, .bool o0, .bool o1, .bool sp, .int .u32 x, .int .u32 b] := Row.step (by go_simp) (by go_simp) hb6
  have hB_6 : Below w.heap.size w v6 := bk (by go_simp) (by first | (go_simp; done) | (go_simp; omega) | exact Below.size (by assumption)) hb6
  clear F_5 F_5' C_5 C_5' G_5 G_5' W_5 W_5' H_5 H_5' hB_5 hb6
  have hz_6 : w.heap.size ≤ v6.heap.size := hB_6.size
  have hl_F_6 := isRow.lt F_6
  have ne_F_6_0 : ¬ w.heap.size = v6.heap.size := by omega
  have en_F_6_0 : ¬ v6.heap.size = w.heap.size := by omega
  have hl_C_6 := isRow.lt C_6
  have ne_C_6_0 : ¬ (w.heap.size + 1) = v6.heap.size := by omega
  have en_C_6_0 : ¬ v6.heap.size = (w.heap.size + 1) := by omega
  have hl_G_6 := isRow.lt G_6
  have ne_G_6_0 : ¬ v1.heap.size = v6.heap.size := by omega
  have en_G_6_0 : ¬ v6.heap.size = v1.heap.size := by omega
  have hl_W_6 := isRow.lt W_6
  have ne_W_6_0 : ¬ (v1.heap.size + 1) = v6.heap.size := by omega
  have en_W_6_0 : ¬ v6.heap.size = (v1.heap.size + 1) := by omega
  have hl_H_6 := isRow.lt H_6
  have ne_H_6_0 : ¬ v4.heap.size = v6.heap.size := by omega
  have en_H_6_0 : ¬ v6.heap.size = v4.heap.size := by omega
  have h1 := HG.out
  have k0 : IntKind.i64.wrap 0 = 0 := by decide
  have k1 : IntKind.i64.wrap 1 = 1 := by decide
  have hp := HP.out
  have hrun := HRN.out
  have kD : IntKind.i64.wrap (D - 1) = D - 1 := IntWalk.i64_in _ (by omega)
  go_wp2_with fail
  refine wp_region_held_drew (S := fun w' => isRow w' w.heap.size ∧ rowAt w' w.heap.size = #[.int .i64 m, .int .i64 p0, .int .i64 p1, .bool o0, .bool o1, .bool sp, .int .u32 a, .int .u32 b] ∧ isRow w' (w.heap.size + 1) ∧ rowAt w' (w.heap.size + 1) = #[.int .i64 id, .int .i64 pr, .int .i64 gp, .bool is] ∧ isRow w' v1.heap.size ∧ rowAt w' v1.heap.size = #[.int .i64 m, .int .i64 p0, .int .i64 p1, .bool false, .bool o1, .bool sp, .int .u32 a, .int .u32 b] ∧ isRow w' (v1.heap.size + 1) ∧ rowAt w' (v1.heap.size + 1) = #[.int .i64 m, .int .i64 p0, .int .i64 p1, .bool false, .bool o1, .bool sp, .int .u32 a, .int .u32 b] ∧ isRow w' v4.heap.size ∧ rowAt w' v4.heap.size = #[.int .i64 m, .int .i64 p0, .int .i64 p1, .bool o0, .bool o1, .bool sp, .int .u32 x, .int .u32 b] ∧ Below w.heap.size w w') (by kernel_rfl) ⟨F_6, F_6', C_6, C_6', G_6, G_6', W_6, W_6', H_6, H_6', below_drew0 hB_6⟩ (fun hHeld => ?_)
  refine wpAnyH_take (i := 0) (oi := { dst := some 63, op := Op.move (Operand.tmp 7), type := 4, pos := "law.go:167", after := #[], guard := none }) (v := ?_) rfl (by kernel_rfl) (by kernel_rfl) (by kernel_rfl) (fun _ _ _ h => h) (Or.inl ⟨by rfl, ?_⟩) (by assumption) ?_
  rotate_left
  · (intro w_ hS_; (try dsimp only at hS_); go_simp; try with_reducible rfl)
  try simp only [Act.put, List.setIfInBounds_toArray, List.set_cons_zero, List.set_cons_succ]
  refine wpAnyH_take (i := 1) (oi := { dst := some 64, op := Op.move (Operand.tmp 63), type := 4, pos := "law.go:167", after := #[{ on := 0, ground := Ground.data }], guard := none }) (v := ?_) rfl (by kernel_rfl) (by kernel_rfl) (by kernel_rfl) (fun _ _ _ h => h) (Or.inl ⟨by rfl, ?_⟩) (by assumption) ?_
  rotate_left
  · (intro w_ hS_; (try dsimp only at hS_); go_simp; try with_reducible rfl)
  try simp only [Act.put, List.setIfInBounds_toArray, List.set_cons_zero, List.set_cons_succ]
  refine wpAnyH_take (i := 2) (oi := { dst := some 65, op := Op.move (Operand.tmp 13), type := 4, pos := "law.go:167", after := #[{ on := 1, ground := Ground.guard }], guard := some (1, true) }) (v := ?_) rfl (by kernel_rfl) (by kernel_rfl) (by kernel_rfl) (fun _ _ _ h => h) (Or.inl ⟨by rfl, ?_⟩) (by assumption) ?_
  rotate_left
  · (intro w_ hS_; (try dsimp only at hS_); go_simp; try with_reducible rfl)
  try simp only [Act.put, List.setIfInBounds_toArray, List.set_cons_zero, List.set_cons_succ]
  refine wpAnyH_take (i := 3) (oi := { dst := some 66, op := Op.move (Operand.tmp 14), type := 3, pos := "law.go:167", after := #[{ on := 1, ground := Ground.guard }], guard := some (1, true) }) (v := ?_) rfl (by kernel_rfl) (by kernel_rfl) (by kernel_rfl) (fun _ _ _ h => h) (Or.inl ⟨by rfl, ?_⟩) (by assumption) ?_
  rotate_left
  · (intro w_ hS_; (try dsimp only at hS_); go_simp; try with_reducible rfl)
  try simp only [Act.put, List.setIfInBounds_toArray, List.set_cons_zero, List.set_cons_succ]
  refine wpAnyH_take (i := 4) (oi := { dst := some 67, op := Op.binOp BinOp.neq 3 (Operand.tmp 66) (Operand.const (Value.int IntKind.i64 255)) 3, type := 4, pos := "law.go:167", after := #[{ on := 3, ground := Ground.data }, { on := 1, ground := Ground.guard }], guard := some (1, true) }) (v := ?_) rfl (by kernel_rfl) (by kernel_rfl) (by kernel_rfl) (fun _ _ _ h => h) (Or.inl ⟨by rfl, ?_⟩) (by assumption) ?_
  rotate_left
  · (intro w_ hS_; (try dsimp only at hS_); go_simp; try with_reducible rfl)
  try simp only [Act.put, List.setIfInBounds_toArray, List.set_cons_zero, List.set_cons_succ]
  refine wpAnyH_take (i := 5) (oi := { dst := some 68, op := Op.move (Operand.tmp 67), type := 4, pos := "law.go:167", after := #[{ on := 4, ground := Ground.data }, { on := 1, ground := Ground.chain }, { on := 1, ground := Ground.guard }], guard := some (1, true) }) (v := ?_) rfl (by kernel_rfl) (by kernel_rfl) (by kernel_rfl) (fun _ _ _ h => h) (Or.inl ⟨by rfl, ?_⟩) (by assumption) ?_
  rotate_left
  · (intro w_ hS_; (try dsimp only at hS_); go_simp; try with_reducible rfl)
  try simp only [Act.put, List.setIfInBounds_toArray, List.set_cons_zero, List.set_cons_succ]
  refine wpAnyH_take (i := 6) (oi := { dst := some 69, op := Op.move (Operand.tmp 15), type := 3, pos := "law.go:167", after := #[{ on := 5, ground := Ground.guard }], guard := some (5, true) }) (v := ?_) rfl (by kernel_rfl) (by kernel_rfl) (by kernel_rfl) (fun _ _ _ h => h) (Or.inl ⟨by rfl, ?_⟩) (by assumption) ?_
  rotate_left
  · (intro w_ hS_; (try dsimp only at hS_); go_simp; try with_reducible rfl)
  try simp only [Act.put, List.setIfInBounds_toArray, List.set_cons_zero, List.set_cons_succ]
  refine wpAnyH_take (i := 7) (oi := { dst := some 70, op := Op.move (Operand.tmp 2), type := 3, pos := "law.go:167", after := #[{ on := 5, ground := Ground.guard }], guard := some (5, true) }) (v := ?_) rfl (by kernel_rfl) (by kernel_rfl) (by kernel_rfl) (fun _ _ _ h => h) (Or.inl ⟨by rfl, ?_⟩) (by assumption) ?_
  rotate_left
  · (intro w_ hS_; (try dsimp only at hS_); go_simp; try with_reducible rfl)
  try simp only [Act.put, List.setIfInBounds_toArray, List.set_cons_zero, List.set_cons_succ]
  refine wpAnyH_take (i := 8) (oi := { dst := some 71, op := Op.binOp BinOp.eql 3 (Operand.tmp 69) (Operand.tmp 70) 3, type := 4, pos := "law.go:167", after := #[{ on := 6, ground := Ground.data }, { on := 7, ground := Ground.data }, { on := 5, ground := Ground.guard }], guard := some (5, true) }) (v := ?_) rfl (by kernel_rfl) (by kernel_rfl) (by kernel_rfl) (fun _ _ _ h => h) (Or.inl ⟨by rfl, ?_⟩) (by assumption) ?_
  rotate_left
  · (intro w_ hS_; (try dsimp only at hS_); go_simp; try with_reducible rfl)
  try simp only [Act.put, List.setIfInBounds_toArray, List.set_cons_zero, List.set_cons_succ]
  refine wpAnyH_take (i := 9) (oi := { dst := some 72, op := Op.pick (Operand.tmp 68) (Operand.tmp 71) (Operand.const (Value.bool false)), type := 4, pos := "law.go:167", after := #[{ on := 5, ground := Ground.data }, { on := 8, ground := Ground.data }, { on := 1, ground := Ground.guard }], guard := some (1, true) }) (v := ?_) rfl (by kernel_rfl) (by kernel_rfl) (by kernel_rfl) (fun _ _ _ h => h) (Or.inl ⟨by rfl, ?_⟩) (by assumption) ?_
  rotate_left
  · (intro w_ hS_; (try dsimp only at hS_); go_simp; try with_reducible rfl)
  try simp only [Act.put, List.setIfInBounds_toArray, List.set_cons_zero, List.set_cons_succ]
  refine wpAnyH_take (i := 10) (oi := { dst := some 73, op := Op.binOp BinOp.eql 4 (Operand.tmp 65) (Operand.tmp 72) 4, type := 4, pos := "law.go:167", after := #[{ on := 2, ground := Ground.data }, { on := 9, ground := Ground.data }, { on := 1, ground := Ground.guard }], guard := some (1, true) }) (v := ?_) rfl (by kernel_rfl) (by kernel_rfl) (by kernel_rfl) (fun _ _ _ h => h) (Or.inl ⟨by rfl, ?_⟩) (by assumption) ?_
  rotate_left
  · (intro w_ hS_; (try dsimp only at hS_); go_simp; try with_reducible rfl)
  try simp only [Act.put, List.setIfInBounds_toArray, List.set_cons_zero, List.set_cons_succ]
  refine wpAnyH_take (i := 11) (oi := { dst := some 74, op := Op.pick (Operand.tmp 64) (Operand.tmp 73) (Operand.const (Value.bool false)), type := 4, pos := "law.go:167", after := #[{ on := 1, ground := Ground.data }, { on := 10, ground := Ground.data }], guard := none }) (v := ?_) rfl (by kernel_rfl) (by kernel_rfl) (by kernel_rfl) (fun _ _ _ h => h) (Or.inl ⟨by rfl, ?_⟩) (by assumption) ?_
  rotate_left
  · (intro w_ hS_; (try dsimp only at hS_); go_simp; try with_reducible rfl)
  try simp only [Act.put, List.setIfInBounds_toArray, List.set_cons_zero, List.set_cons_succ]
  refine wpAnyH_take (i := 12) (oi := { dst := some 75, op := Op.move (Operand.tmp 74), type := 4, pos := "law.go:167", after := #[{ on := 11, ground := Ground.data }, { on := 5, ground := Ground.chain }], guard := none }) (v := ?_) rfl (by kernel_rfl) (by kernel_rfl) (by kernel_rfl) (fun _ _ _ h => h) (Or.inl ⟨by rfl, ?_⟩) (by assumption) ?_
  rotate_left
  · (intro w_ hS_; (try dsimp only at hS_); go_simp; try with_reducible rfl)
  try simp only [Act.put, List.setIfInBounds_toArray, List.set_cons_zero, List.set_cons_succ]
  refine wpAnyH_take (i := 13) (oi := { dst := some 76, op := Op.move (Operand.tmp 2), type := 3, pos := "law.go:167", after := #[{ on := 12, ground := Ground.guard }], guard := some (12, true) }) (v := ?_) rfl (by kernel_rfl) (by kernel_rfl) (by kernel_rfl) (fun _ _ _ h => h) (Or.inl ⟨by rfl, ?_⟩) (by assumption) ?_
  rotate_left
  · (intro w_ hS_; (try dsimp only at hS_); go_simp; try with_reducible rfl)
  try simp only [Act.put, List.setIfInBounds_toArray, List.set_cons_zero, List.set_cons_succ]
  refine wpAnyH_take (i := 14) (oi := { dst := some 77, op := Op.binOp BinOp.and 3 (Operand.tmp 76) (Operand.const (Value.int IntKind.i64 1)) 3, type := 3, pos := "law.go:167", after := #[{ on := 13, ground := Ground.data }, { on := 12, ground := Ground.guard }], guard := some (12, true) }) (v := ?_) rfl (by kernel_rfl) (by kernel_rfl) (by kernel_rfl) (fun _ _ _ h => h) (Or.inl ⟨by rfl, ?_⟩) (by assumption) ?_
  rotate_left
  · (intro w_ hS_; (try dsimp only at hS_); go_simp; try with_reducible rfl)
  try simp only [Act.put, List.setIfInBounds_toArray, List.set_cons_zero, List.set_cons_succ]
  refine wpAnyH_take (i := 15) (oi := { dst := some 78, op := Op.binOp BinOp.sub 3 (Operand.const (Value.int IntKind.i64 1)) (Operand.tmp 77) 3, type := 3, pos := "law.go:167", after := #[{ on := 14, ground := Ground.data }, { on := 12, ground := Ground.guard }], guard := some (12, true) }) (v := ?_) rfl (by kernel_rfl) (by kernel_rfl) (by kernel_rfl) (fun _ _ _ h => h) (Or.inl ⟨by rfl, ?_⟩) (by assumption) ?_
  rotate_left
  · (intro w_ hS_; (try dsimp only at hS_); go_simp; try with_reducible rfl)
  try simp only [Act.put, List.setIfInBounds_toArray, List.set_cons_zero, List.set_cons_succ]
  refine wpAnyH_take (i := 16) (oi := { dst := some 79, op := Op.fieldAddr 29 (Operand.tmp 12) 4, type := 0, pos := "law.go:167", after := #[{ on := 12, ground := Ground.guard }], guard := some (12, true) }) (v := ?_) rfl (by kernel_rfl) (by kernel_rfl) (by kernel_rfl) (fun _ _ _ h => h) (Or.inl ⟨by rfl, ?_⟩) (by assumption) ?_
  rotate_left
  · (intro w_ hS_; (try dsimp only at hS_); go_simp; try with_reducible rfl)
  try simp only [Act.put, List.setIfInBounds_toArray, List.set_cons_zero, List.set_cons_succ]
  refine wpAnyH_take (i := 17) (oi := { dst := some 80, op := Op.fieldAddr 27 (Operand.tmp 79) 0, type := 0, pos := "law.go:167", after := #[{ on := 16, ground := Ground.data }, { on := 12, ground := Ground.guard }], guard := some (12, true) }) (v := ?_) rfl (by kernel_rfl) (by kernel_rfl) (by kernel_rfl) (fun _ _ _ h => h) (Or.inl ⟨by rfl, ?_⟩) (by assumption) ?_
  rotate_left
  · (intro w_ hS_; (try dsimp only at hS_); go_simp; try with_reducible rfl)
  try simp only [Act.put, List.setIfInBounds_toArray, List.set_cons_zero, List.set_cons_succ]
  refine wpAnyH_take (i := 18) (oi := { dst := some 81, op := Op.indexAddr 25 (Operand.tmp 80) (Operand.tmp 78), type := 0, pos := "law.go:167", after := #[{ on := 17, ground := Ground.data }, { on := 15, ground := Ground.data }, { on := 12, ground := Ground.guard }], guard := some (12, true) }) (v := ?_) rfl (by kernel_rfl) (by kernel_rfl) (by kernel_rfl) (fun _ _ _ h => h) (Or.inl ⟨by rfl, ?_⟩) (by assumption) ?_
  rotate_left
  · (intro w_ hS_; (try dsimp only at hS_); go_simp; try with_reducible rfl)
  try simp only [Act.put, List.setIfInBounds_toArray, List.set_cons_zero, List.set_cons_succ]
  refine wpAnyH_take (i := 19) (oi := { dst := some 82, op := Op.load 24 (Operand.tmp 81), type := 24, pos := "law.go:167", after := #[{ on := 18, ground := Ground.data }, { on := 12, ground := Ground.guard }], guard := some (12, true) }) (v := ?_) rfl (by kernel_rfl) (by kernel_rfl) (by kernel_rfl) (fun _ _ _ h => h) (Or.inl ⟨by rfl, ?_⟩) (by assumption) ?_
  rotate_left
  · (intro w_ hS_; (try dsimp only at hS_); go_simp; try with_reducible rfl)
  try simp only [Act.put, List.setIfInBounds_toArray, List.set_cons_zero, List.set_cons_succ]
  refine wpAnyH_take (i := 20) (oi := { dst := some 83, op := Op.move (Operand.tmp 2), type := 3, pos := "law.go:167", after := #[{ on := 12, ground := Ground.guard }], guard := some (12, true) }) (v := ?_) rfl (by kernel_rfl) (by kernel_rfl) (by kernel_rfl) (fun _ _ _ h => h) (Or.inl ⟨by rfl, ?_⟩) (by assumption) ?_
  rotate_left
  · (intro w_ hS_; (try dsimp only at hS_); go_simp; try with_reducible rfl)
  try simp only [Act.put, List.setIfInBounds_toArray, List.set_cons_zero, List.set_cons_succ]
  refine wpAnyH_take (i := 21) (oi := { dst := some 84, op := Op.binOp BinOp.and 3 (Operand.tmp 83) (Operand.const (Value.int IntKind.i64 1)) 3, type := 3, pos := "law.go:167", after := #[{ on := 20, ground := Ground.data }, { on := 12, ground := Ground.guard }], guard := some (12, true) }) (v := ?_) rfl (by kernel_rfl) (by kernel_rfl) (by kernel_rfl) (fun _ _ _ h => h) (Or.inl ⟨by rfl, ?_⟩) (by assumption) ?_
  rotate_left
  · (intro w_ hS_; (try dsimp only at hS_); go_simp; try with_reducible rfl)
  try simp only [Act.put, List.setIfInBounds_toArray, List.set_cons_zero, List.set_cons_succ]
  refine wpAnyH_take (i := 22) (oi := { dst := some 85, op := Op.binOp BinOp.sub 3 (Operand.const (Value.int IntKind.i64 1)) (Operand.tmp 84) 3, type := 3, pos := "law.go:167", after := #[{ on := 21, ground := Ground.data }, { on := 12, ground := Ground.guard }], guard := some (12, true) }) (v := ?_) rfl (by kernel_rfl) (by kernel_rfl) (by kernel_rfl) (fun _ _ _ h => h) (Or.inl ⟨by rfl, ?_⟩) (by assumption) ?_
  rotate_left
  · (intro w_ hS_; (try dsimp only at hS_); go_simp; try with_reducible rfl)
  try simp only [Act.put, List.setIfInBounds_toArray, List.set_cons_zero, List.set_cons_succ]
  refine wpAnyH_take (i := 23) (oi := { dst := some 86, op := Op.fieldAddr 29 (Operand.tmp 3) 4, type := 0, pos := "law.go:167", after := #[{ on := 12, ground := Ground.guard }], guard := some (12, true) }) (v := ?_) rfl (by kernel_rfl) (by kernel_rfl) (by kernel_rfl) (fun _ _ _ h => h) (Or.inl ⟨by rfl, ?_⟩) (by assumption) ?_
  rotate_left
  · (intro w_ hS_; (try dsimp only at hS_); go_simp; try with_reducible rfl)
  try simp only [Act.put, List.setIfInBounds_toArray, List.set_cons_zero, List.set_cons_succ]
  refine wpAnyH_take (i := 24) (oi := { dst := some 87, op := Op.fieldAddr 27 (Operand.tmp 86) 0, type := 0, pos := "law.go:167", after := #[{ on := 23, ground := Ground.data }, { on := 12, ground := Ground.guard }], guard := some (12, true) }) (v := ?_) rfl (by kernel_rfl) (by kernel_rfl) (by kernel_rfl) (fun _ _ _ h => h) (Or.inl ⟨by rfl, ?_⟩) (by assumption) ?_
  rotate_left
  · (intro w_ hS_; (try dsimp only at hS_); go_simp; try with_reducible rfl)
  try simp only [Act.put, List.setIfInBounds_toArray, List.set_cons_zero, List.set_cons_succ]
  refine wpAnyH_take (i := 25) (oi := { dst := some 88, op := Op.indexAddr 25 (Operand.tmp 87) (Operand.tmp 85), type := 0, pos := "law.go:167", after := #[{ on := 24, ground := Ground.data }, { on := 22, ground := Ground.data }, { on := 12, ground := Ground.guard }], guard := some (12, true) }) (v := ?_) rfl (by kernel_rfl) (by kernel_rfl) (by kernel_rfl) (fun _ _ _ h => h) (Or.inl ⟨by rfl, ?_⟩) (by assumption) ?_
  rotate_left
  · (intro w_ hS_; (try dsimp only at hS_); go_simp; try with_reducible rfl)
  try simp only [Act.put, List.setIfInBounds_toArray, List.set_cons_zero, List.set_cons_succ]
  refine wpAnyH_take (i := 26) (oi := { dst := some 89, op := Op.load 24 (Operand.tmp 88), type := 24, pos := "law.go:167", after := #[{ on := 25, ground := Ground.data }, { on := 12, ground := Ground.guard }], guard := some (12, true) }) (v := ?_) rfl (by kernel_rfl) (by kernel_rfl) (by kernel_rfl) (fun _ _ _ h => h) (Or.inl ⟨by rfl, ?_⟩) (by assumption) ?_
  rotate_left
  · (intro w_ hS_; (try dsimp only at hS_); go_simp; try with_reducible rfl)
  try simp only [Act.put, List.setIfInBounds_toArray, List.set_cons_zero, List.set_cons_succ]
  refine wpAnyH_take (i := 27) (oi := { dst := some 90, op := Op.binOp BinOp.eql 24 (Operand.tmp 82) (Operand.tmp 89) 24, type := 4, pos := "law.go:167", after := #[{ on := 19, ground := Ground.data }, { on := 26, ground := Ground.data }, { on := 12, ground := Ground.guard }], guard := some (12, true) }) (v := ?_) rfl (by kernel_rfl) (by kernel_rfl) (by kernel_rfl) (fun _ _ _ h => h) (Or.inl ⟨by rfl, ?_⟩) (by assumption) ?_
  rotate_left
  · (intro w_ hS_; (try dsimp only at hS_); go_simp; try with_reducible rfl)
  try simp only [Act.put, List.setIfInBounds_toArray, List.set_cons_zero, List.set_cons_succ]
  refine wpAnyH_take (i := 28) (oi := { dst := some 91, op := Op.pick (Operand.tmp 75) (Operand.tmp 90) (Operand.const (Value.bool false)), type := 4, pos := "law.go:167", after := #[{ on := 12, ground := Ground.data }, { on := 27, ground := Ground.data }], guard := none }) (v := ?_) rfl (by kernel_rfl) (by kernel_rfl) (by kernel_rfl) (fun _ _ _ h => h) (Or.inl ⟨by rfl, ?_⟩) (by assumption) ?_
  rotate_left
  · (intro w_ hS_; (try dsimp only at hS_); go_simp; try with_reducible rfl)
  try simp only [Act.put, List.setIfInBounds_toArray, List.set_cons_zero, List.set_cons_succ]
  refine wpAnyH_take (i := 29) (oi := { dst := some 92, op := Op.move (Operand.tmp 91), type := 4, pos := "law.go:167", after := #[{ on := 28, ground := Ground.data }, { on := 12, ground := Ground.chain }], guard := none }) (v := ?_) rfl (by kernel_rfl) (by kernel_rfl) (by kernel_rfl) (fun _ _ _ h => h) (Or.inl ⟨by rfl, ?_⟩) (by assumption) ?_
  rotate_left
  · (intro w_ hS_; (try dsimp only at hS_); go_simp; try with_reducible rfl)
  try simp only [Act.put, List.setIfInBounds_toArray, List.set_cons_zero, List.set_cons_succ]
  refine wpAnyH_take (i := 30) (oi := { dst := some 93, op := Op.move (Operand.tmp 13), type := 4, pos := "law.go:167", after := #[{ on := 29, ground := Ground.guard }], guard := some (29, true) }) (v := ?_) rfl (by kernel_rfl) (by kernel_rfl) (by kernel_rfl) (fun _ _ _ h => h) (Or.inl ⟨by rfl, ?_⟩) (by assumption) ?_
  rotate_left
  · (intro w_ hS_; (try dsimp only at hS_); go_simp; try with_reducible rfl)
  try simp only [Act.put, List.setIfInBounds_toArray, List.set_cons_zero, List.set_cons_succ]
  refine wpAnyH_take (i := 31) (oi := { dst := some 94, op := Op.move (Operand.tmp 93), type := 4, pos := "law.go:167", after := #[{ on := 30, ground := Ground.data }, { on := 29, ground := Ground.chain }, { on := 29, ground := Ground.guard }], guard := some (29, true) }) (v := ?_) rfl (by kernel_rfl) (by kernel_rfl) (by kernel_rfl) (fun _ _ _ h => h) (Or.inl ⟨by rfl, ?_⟩) (by assumption) ?_
  rotate_left
  · (intro w_ hS_; (try dsimp only at hS_); go_simp; try with_reducible rfl)
  try simp only [Act.put, List.setIfInBounds_toArray, List.set_cons_zero, List.set_cons_succ]
  refine wpAnyH_take (i := 32) (oi := { dst := some 95, op := Op.load 29 (Operand.tmp 12), type := 29, pos := "law.go:167", after := #[{ on := 31, ground := Ground.guard }], guard := some (31, true) }) (v := ?_) rfl (by kernel_rfl) (by kernel_rfl) (by kernel_rfl) (fun _ _ _ h => h) (Or.inl ⟨by rfl, ?_⟩) (by assumption) ?_
  rotate_left
  · (intro w_ hS_; (try dsimp only at hS_); go_simp; try with_reducible rfl)
  try simp only [Act.put, List.setIfInBounds_toArray, List.set_cons_zero, List.set_cons_succ]
  refine wpAnyH_take (i := 34) (oi := { dst := some 97, op := Op.load 29 (Operand.tmp 3), type := 29, pos := "law.go:167", after := #[{ on := 31, ground := Ground.guard }], guard := some (31, true) }) (v := ?_) rfl (by kernel_rfl) (by kernel_rfl) (by kernel_rfl) (fun _ _ _ h => h) (Or.inl ⟨by rfl, ?_⟩) (by assumption) ?_
  rotate_left
  · (intro w_ hS_; (try dsimp only at hS_); go_simp; try with_reducible rfl)
  try simp only [Act.put, List.setIfInBounds_toArray, List.set_cons_zero, List.set_cons_succ]
  refine wpAnyH_ready (rs := [33]) (by kernel_rfl) (by simp) ?_
  refine AllReadyH.cons (o := { dst := some 96, op := Op.call { callee := Callee.value (Operand.func 20), args := #[Operand.tmp 95], argTypes := #[29] }, type := 3, pos := "law.go:167", after := #[{ on := 32, ground := Ground.data }, { on := 31, ground := Ground.chain }, { on := 31, ground := Ground.guard }], guard := some (31, true) }) rfl (fun K hK => ?_) AllReadyH.nil
  go_simp
  refine (HDH.out _).mono ?_
  rintro e w4 ⟨rfl, hb⟩
  refine hK.out _ _ ?_ (fun hHeld => ?_)
  · (go_split_ands; exact ⟨rk1 (by assumption) hb, rk2 (by assumption) (by assumption) hb, rk1 (by assumption) hb, rk2 (by assumption) (by assumption) hb, rk1 (by assumption) hb, rk2 (by assumption) (by assumption) hb, rk1 (by assumption) hb, rk2 (by assumption) (by assumption) hb, rk1 (by assumption) hb, rk2 (by assumption) (by assumption) hb, bk (by assumption) (Below.size (by assumption)) hb⟩)
  clear hK K
  try simp only [Act.put, List.setIfInBounds_toArray, List.set_cons_zero, List.set_cons_succ]
  refine wpAnyH_ready (rs := [35]) (by kernel_rfl) (by simp) ?_
  refine AllReadyH.cons (o := { dst := some 98, op := Op.call { callee := Callee.value (Operand.func 20), args := #[Operand.tmp 97], argTypes := #[29] }, type := 3, pos := "law.go:167", after := #[{ on := 34, ground := Ground.data }, { on := 33, ground := Ground.chain }, { on := 31, ground := Ground.guard }], guard := some (31, true) }) rfl (fun K hK => ?_) AllReadyH.nil
  go_simp
  refine (HDF.out _).mono ?_
  rintro e w4 ⟨rfl, hb⟩
  refine hK.out _ _ ?_ (fun hHeld => ?_)
  · (go_split_ands; exact ⟨rk1 (by assumption) hb, rk2 (by assumption) (by assumption) hb, rk1 (by assumption) hb, rk2 (by assumption) (by assumption) hb, rk1 (by assumption) hb, rk2 (by assumption) (by assumption) hb, rk1 (by assumption) hb, rk2 (by assumption) (by assumption) hb, rk1 (by assumption) hb, rk2 (by assumption) (by assumption) hb, bk (by assumption) (Below.size (by assumption)) hb⟩)
  clear hK K
  try simp only [Act.put, List.setIfInBounds_toArray, List.set_cons_zero, List.set_cons_succ]
  refine wpAnyH_take (i := 36) (oi := { dst := some 99, op := Op.binOp BinOp.sub 3 (Operand.tmp 98) (Operand.const (Value.int IntKind.i64 1)) 3, type := 3, pos := "law.go:167", after := #[{ on := 35, ground := Ground.data }, { on := 31, ground := Ground.guard }], guard := some (31, true) }) (v := ?_) rfl (by kernel_rfl) (by kernel_rfl) (by kernel_rfl) (fun _ _ _ h => h) (Or.inl ⟨by rfl, ?_⟩) (by assumption) ?_
  rotate_left
  · (intro w_ hS_; (try dsimp only at hS_); go_simp; try with_reducible rfl)
  try simp only [Act.put, List.setIfInBounds_toArray, List.set_cons_zero, List.set_cons_succ]
  refine wpAnyH_take (i := 37) (oi := { dst := some 100, op := Op.binOp BinOp.eql 3 (Operand.tmp 96) (Operand.tmp 99) 3, type := 4, pos := "law.go:167", after := #[{ on := 33, ground := Ground.data }, { on := 36, ground := Ground.data }, { on := 31, ground := Ground.guard }], guard := some (31, true) }) (v := ?_) rfl (by kernel_rfl) (by kernel_rfl) (by kernel_rfl) (fun _ _ _ h => h) (Or.inl ⟨by rfl, ?_⟩) (by assumption) ?_
  rotate_left
  · (intro w_ hS_; (try dsimp only at hS_); go_simp; try with_reducible rfl)
  try simp only [Act.put, List.setIfInBounds_toArray, List.set_cons_zero, List.set_cons_succ]
  refine wpAnyH_take (i := 38) (oi := { dst := some 101, op := Op.pick (Operand.tmp 94) (Operand.tmp 100) (Operand.const (Value.bool false)), type := 4, pos := "law.go:167", after := #[{ on := 31, ground := Ground.data }, { on := 37, ground := Ground.data }, { on := 29, ground := Ground.guard }], guard := some (29, true) }) (v := ?_) rfl (by kernel_rfl) (by kernel_rfl) (by kernel_rfl) (fun _ _ _ h => h) (Or.inl ⟨by rfl, ?_⟩) (by assumption) ?_
  rotate_left
  · (intro w_ hS_; (try dsimp only at hS_); go_simp; try with_reducible rfl)
  try simp only [Act.put, List.setIfInBounds_toArray, List.set_cons_zero, List.set_cons_succ]
  refine wpAnyH_take (i := 39) (oi := { dst := some 102, op := Op.move (Operand.tmp 101), type := 4, pos := "law.go:167", after := #[{ on := 38, ground := Ground.data }, { on := 35, ground := Ground.chain }, { on := 29, ground := Ground.guard }], guard := some (29, true) }) (v := ?_) rfl (by kernel_rfl) (by kernel_rfl) (by kernel_rfl) (fun _ _ _ h => h) (Or.inl ⟨by rfl, ?_⟩) (by assumption) ?_
  rotate_left
  · (intro w_ hS_; (try dsimp only at hS_); go_simp; try with_reducible rfl)
  try simp only [Act.put, List.setIfInBounds_toArray, List.set_cons_zero, List.set_cons_succ]
  refine wpAnyH_take (i := 40) (oi := { dst := some 103, op := Op.move (Operand.tmp 13), type := 4, pos := "law.go:167", after := #[{ on := 39, ground := Ground.guard }], guard := some (39, false) }) (v := undef) rfl (by kernel_rfl) (by kernel_rfl) (by kernel_rfl) (fun _ _ _ h => h) (Or.inr ⟨by rfl, rfl⟩) (by assumption) ?_
  try simp only [Act.put, List.setIfInBounds_toArray, List.set_cons_zero, List.set_cons_succ]
  refine wpAnyH_take (i := 41) (oi := { dst := some 104, op := Op.unOp UnOp.not 4 (Operand.tmp 103), type := 4, pos := "law.go:167", after := #[{ on := 40, ground := Ground.data }, { on := 39, ground := Ground.guard }], guard := some (39, false) }) (v := undef) rfl (by kernel_rfl) (by kernel_rfl) (by kernel_rfl) (fun _ _ _ h => h) (Or.inr ⟨by rfl, rfl⟩) (by assumption) ?_
  try simp only [Act.put, List.setIfInBounds_toArray, List.set_cons_zero, List.set_cons_succ]
  refine wpAnyH_take (i := 42) (oi := { dst := some 105, op := Op.move (Operand.tmp 104), type := 4, pos := "law.go:167", after := #[{ on := 41, ground := Ground.data }, { on := 39, ground := Ground.chain }, { on := 39, ground := Ground.guard }], guard := some (39, false) }) (v := undef) rfl (by kernel_rfl) (by kernel_rfl) (by kernel_rfl) (fun _ _ _ h => h) (Or.inr ⟨by rfl, rfl⟩) (by assumption) ?_
  try simp only [Act.put, List.setIfInBounds_toArray, List.set_cons_zero, List.set_cons_succ]
  refine wpAnyH_take (i := 43) (oi := { dst := some 106, op := Op.load 29 (Operand.tmp 12), type := 29, pos := "law.go:167", after := #[{ on := 42, ground := Ground.guard }], guard := some (42, true) }) (v := undef) rfl (by kernel_rfl) (by kernel_rfl) (by kernel_rfl) (fun _ _ _ h => h) (Or.inr ⟨by rfl, rfl⟩) (by assumption) ?_
  try simp only [Act.put, List.setIfInBounds_toArray, List.set_cons_zero, List.set_cons_succ]
  refine wpAnyH_take (i := 44) (oi := { dst := some 107, op := Op.load 29 (Operand.tmp 3), type := 29, pos := "law.go:167", after := #[{ on := 42, ground := Ground.guard }], guard := some (42, true) }) (v := undef) rfl (by kernel_rfl) (by kernel_rfl) (by kernel_rfl) (fun _ _ _ h => h) (Or.inr ⟨by rfl, rfl⟩) (by assumption) ?_
  try simp only [Act.put, List.setIfInBounds_toArray, List.set_cons_zero, List.set_cons_succ]
  refine wpAnyH_take (i := 45) (oi := { dst := some 108, op := Op.binOp BinOp.eql 29 (Operand.tmp 106) (Operand.tmp 107) 29, type := 4, pos := "law.go:167", after := #[{ on := 43, ground := Ground.data }, { on := 44, ground := Ground.data }, { on := 42, ground := Ground.guard }], guard := some (42, true) }) (v := undef) rfl (by kernel_rfl) (by kernel_rfl) (by kernel_rfl) (fun _ _ _ h => h) (Or.inr ⟨by rfl, rfl⟩) (by assumption) ?_
  try simp only [Act.put, List.setIfInBounds_toArray, List.set_cons_zero, List.set_cons_succ]
  refine wpAnyH_take (i := 46) (oi := { dst := some 109, op := Op.pick (Operand.tmp 105) (Operand.tmp 108) (Operand.const (Value.bool false)), type := 4, pos := "law.go:167", after := #[{ on := 42, ground := Ground.data }, { on := 45, ground := Ground.data }, { on := 39, ground := Ground.guard }], guard := some (39, false) }) (v := undef) rfl (by kernel_rfl) (by kernel_rfl) (by kernel_rfl) (fun _ _ _ h => h) (Or.inr ⟨by rfl, rfl⟩) (by assumption) ?_
  try simp only [Act.put, List.setIfInBounds_toArray, List.set_cons_zero, List.set_cons_succ]
  refine wpAnyH_take (i := 47) (oi := { dst := some 110, op := Op.pick (Operand.tmp 102) (Operand.const (Value.bool true)) (Operand.tmp 109), type := 4, pos := "law.go:167", after := #[{ on := 39, ground := Ground.data }, { on := 46, ground := Ground.data }, { on := 29, ground := Ground.guard }], guard := some (29, true) }) (v := ?_) rfl (by kernel_rfl) (by kernel_rfl) (by kernel_rfl) (fun _ _ _ h => h) (Or.inl ⟨by rfl, ?_⟩) (by assumption) ?_
  rotate_left
  · (intro w_ hS_; (try dsimp only at hS_); go_simp; try with_reducible rfl)
  try simp only [Act.put, List.setIfInBounds_toArray, List.set_cons_zero, List.set_cons_succ]
  refine wpAnyH_take (i := 48) (oi := { dst := some 111, op := Op.pick (Operand.tmp 92) (Operand.tmp 110) (Operand.const (Value.bool false)), type := 4, pos := "law.go:167", after := #[{ on := 29, ground := Ground.data }, { on := 47, ground := Ground.data }], guard := none }) (v := ?_) rfl (by kernel_rfl) (by kernel_rfl) (by kernel_rfl) (fun _ _ _ h => h) (Or.inl ⟨by rfl, ?_⟩) (by assumption) ?_
  rotate_left
  · (intro w_ hS_; (try dsimp only at hS_); go_simp; try with_reducible rfl)
  try simp only [Act.put, List.setIfInBounds_toArray, List.set_cons_zero, List.set_cons_succ]
  refine wpAnyH_take (i := 49) (oi := { dst := some 6, op := Op.assign (Operand.tmp 111), type := 4, pos := "law.go:167", after := #[{ on := 48, ground := Ground.data }, { on := 42, ground := Ground.chain }, { on := 0, ground := Ground.phase }, { on := 1, ground := Ground.phase }, { on := 2, ground := Ground.phase }, { on := 3, ground := Ground.phase }, { on := 4, ground := Ground.phase }, { on := 5, ground := Ground.phase }, { on := 6, ground := Ground.phase }, { on := 7, ground := Ground.phase }, { on := 8, ground := Ground.phase }, { on := 9, ground := Ground.phase }, { on := 10, ground := Ground.phase }, { on := 11, ground := Ground.phase }, { on := 12, ground := Ground.phase }, { on := 13, ground := Ground.phase }, { on := 14, ground := Ground.phase }, { on := 15, ground := Ground.phase }, { on := 16, ground := Ground.phase }, { on := 17, ground := Ground.phase }, { on := 18, ground := Ground.phase }, { on := 19, ground := Ground.phase }, { on := 20, ground := Ground.phase }, { on := 21, ground := Ground.phase }, { on := 22, ground := Ground.phase }, { on := 23, ground := Ground.phase }, { on := 24, ground := Ground.phase }, { on := 25, ground := Ground.phase }, { on := 26, ground := Ground.phase }, { on := 27, ground := Ground.phase }, { on := 28, ground := Ground.phase }, { on := 29, ground := Ground.phase }, { on := 30, ground := Ground.phase }, { on := 31, ground := Ground.phase }, { on := 32, ground := Ground.phase }, { on := 33, ground := Ground.phase }, { on := 34, ground := Ground.phase }, { on := 35, ground := Ground.phase }, { on := 36, ground := Ground.phase }, { on := 37, ground := Ground.phase }, { on := 38, ground := Ground.phase }, { on := 39, ground := Ground.phase }, { on := 40, ground := Ground.phase }, { on := 41, ground := Ground.phase }, { on := 42, ground := Ground.phase }, { on := 43, ground := Ground.phase }, { on := 44, ground := Ground.phase }, { on := 45, ground := Ground.phase }, { on := 46, ground := Ground.phase }, { on := 47, ground := Ground.phase }, { on := 48, ground := Ground.phase }], guard := none }) (v := ?_) rfl (by kernel_rfl) (by kernel_rfl) (by kernel_rfl) (fun _ _ _ h => h) (Or.inl ⟨by rfl, ?_⟩) (by assumption) ?_
  rotate_left
  · (intro w_ hS_; (try dsimp only at hS_); go_simp; try with_reducible rfl)
  try simp only [Act.put, List.setIfInBounds_toArray, List.set_cons_zero, List.set_cons_succ]
  refine wpAnyH_done (by kernel_rfl) ?_ _
  (try dsimp only at hHeld)
  go_split_ands
  go_wp2
  go_ret
  exact ⟨rfl, by assumption⟩
set_option maxRecDepth 100000 in
set_option maxHeartbeats 4000000 in
theorem groups_C1 (m p0 p1 : Int) (o0 o1 sp : Bool) (a b : Int) (id pr gr : Int) (is : Bool) (gp : Int) (w : World) (x y p run D : Int) (hg : gp % 2 = 1) (ha : U32 a) (hb : U32 b)
    (hm : mayP m p0 p1 o0 false a b pr gp is = false) (hs : showsP o0 false id gp is gp = 1023) (htop : top a b = (p, run)) (hp : (p != 255) = true) (hd : dropB' a b gp = true) (hrun : (run == gp) = true) (hx : dropA a b = x) (hy : dropB a b = y) (hw : U32 y) (hxy : x = a) (hD : ((pop a 32 + pop b 32 : Nat) : Int) = D) (hD' : ((pop a 32 + pop y 32 : Nat) : Int) = D - 1) (hD1 : 1 ≤ D) (hD2 : D ≤ 64) :
    Calls Try.prog 7 #[.agg #[.int .i64 m, .int .i64 p0, .int .i64 p1, .bool o0, .bool o1, .bool sp, .int .u32 a, .int .u32 b], .agg #[.int .i64 id, .int .i64 pr, .int .i64 gr, .bool is], .int .i64 gp] w fun e w' => e = .returned (.bool true) ∧ Below w.heap.size w w' := by
  have HAW := Lib.hid (fun W : World => awake_c W)
  have HTK := Lib.hid (fun (W : World) (g : Nat) (h : isRow W g) (h' : rowAt W g = #[.int .i64 m, .int .i64 p0, .int .i64 p1, .bool o0, .bool false, .bool sp, .int .u32 a, .int .u32 b]) => Take_no1 g m p0 p1 o0 false sp a b id pr gp is gp W h h' hm)
  have HSH := Lib.hid (fun W : World => Shows_c m p0 p1 o0 false sp a b id pr gp is gp W)
  rw [hs] at HSH
  have HMA := Lib.hid (fun W : World => May_c m p0 p1 o0 false sp a b id pr gp is W)
  rw [hm] at HMA
  have HRU := Lib.hid (fun W : World => ifrun_c m p0 p1 o0 o1 sp a b W)
  rw [htop] at HRU
  have HDR := Lib.hid (show ∀ (W : World) (g : Nat) (h : isRow W g) (h' : rowAt W g = #[.int .i64 m, .int .i64 p0, .int .i64 p1, .bool o0, .bool o1, .bool sp, .int .u32 a, .int .u32 b]), Calls Try.prog 14 #[.pointer (some ⟨g, 0, none⟩), .int .i64 gp] W fun e w' => e = .returned (.bool true) ∧ Row w' g #[.int .i64 m, .int .i64 p0, .int .i64 p1, .bool o0, .bool o1, .bool sp, .int .u32 a, .int .u32 y] ∧ Aside g W w' from fun W g h h' => by
    have := IfDrop_c g m p0 p1 o0 o1 sp a b gp W h h'
    rw [hd] at this
    rw [if_pos rfl, if_pos rfl, hx, hy, hxy] at this
    exact this)
  have HDF := Lib.hid (fun W : World => Depth_c m p0 p1 o0 o1 sp a b ha hb W)
  rw [hD] at HDF
  have HDH := Lib.hid (fun W : World => Depth_c m p0 p1 o0 o1 sp a y ha hw W)
  rw [hD'] at HDH
  have HP := Lib.hid hp
  have HRN := Lib.hid hrun
  have HG := Lib.hid (show bits .and .i64 gp 1 = 1 by rw [and1]; exact hg)
  clear hm hs htop hg ha hb hd hx hy hw hxy hD hD' hp hrun
  have hB_0 : Below w.heap.size w w := Below.refl _ _
  have ne_F_C : ¬ w.heap.size = (w.heap.size + 1) := by omega
  have en_F_C : ¬ (w.heap.size + 1) = w.heap.size := by omega
  go_enter Try.func7, Try.ntmps7
  go_wp2_with fail
  refine (HAW.out _).mono ?_
  rintro e v1 ⟨rfl, hb1⟩
  obtain ⟨F_1, F_1'⟩ : Row v1 w.heap.size #[.int .i64 m, .int .i64 p0, .int .i64 p1, .bool o0, .bool o1, .bool sp, .int .u32 a, .int .u32 b] := Row.step (by go_simp) (by go_simp) hb1
  obtain ⟨C_1, C_1'⟩ : Row v1 (w.heap.size + 1) #[.int .i64 id, .int .i64 pr, .int .i64 gr, .bool is] := Row.step (by go_simp) (by go_simp) hb1
  have hB_1 : Below w.heap.size w v1 := bk (by go_simp) (by first | (go_simp; done) | (go_simp; omega) | exact Below.size (by assumption)) hb1
  clear hB_0 hb1
  have hz_1 : w.heap.size ≤ v1.heap.size := hB_1.size
  have hl_F_1 := isRow.lt F_1
  have ne_F_1_0 : ¬ w.heap.size = v1.heap.size := by omega
  have en_F_1_0 : ¬ v1.heap.size = w.heap.size := by omega
  have ne_F_1_1 : ¬ w.heap.size = v1.heap.size + 1 := by omega
  have en_F_1_1 : ¬ v1.heap.size + 1 = w.heap.size := by omega
  have hl_C_1 := isRow.lt C_1
  have ne_C_1_0 : ¬ (w.heap.size + 1) = v1.heap.size := by omega
  have en_C_1_0 : ¬ v1.heap.size = (w.heap.size + 1) := by omega
  have ne_C_1_1 : ¬ (w.heap.size + 1) = v1.heap.size + 1 := by omega
  have en_C_1_1 : ¬ v1.heap.size + 1 = (w.heap.size + 1) := by omega
  have h1 := HG.out
  have ne_F_G : ¬ w.heap.size = v1.heap.size := by omega
  have en_F_G : ¬ v1.heap.size = w.heap.size := by omega
  have ne_C_G : ¬ (w.heap.size + 1) = v1.heap.size := by omega
  have en_C_G : ¬ v1.heap.size = (w.heap.size + 1) := by omega
  have ne_F_W : ¬ w.heap.size = (v1.heap.size + 1) := by omega
  have en_F_W : ¬ (v1.heap.size + 1) = w.heap.size := by omega
  have ne_C_W : ¬ (w.heap.size + 1) = (v1.heap.size + 1) := by omega
  have en_C_W : ¬ (v1.heap.size + 1) = (w.heap.size + 1) := by omega
  have ne_G_W : ¬ v1.heap.size = (v1.heap.size + 1) := by omega
  have en_G_W : ¬ (v1.heap.size + 1) = v1.heap.size := by omega
  go_wp2_with fail
  refine (HTK.out _ v1.heap.size (by go_simp) (by go_simp)).mono ?_
  rintro e v2 ⟨rfl, hb2⟩
  obtain ⟨F_2, F_2'⟩ : Row v2 w.heap.size #[.int .i64 m, .int .i64 p0, .int .i64 p1, .bool o0, .bool o1, .bool sp, .int .u32 a, .int .u32 b] := Row.step (by go_simp) (by go_simp) hb2
  obtain ⟨C_2, C_2'⟩ : Row v2 (w.heap.size + 1) #[.int .i64 id, .int .i64 pr, .int .i64 gp, .bool is] := Row.step (by go_simp) (by go_simp) hb2
  obtain ⟨G_2, G_2'⟩ : Row v2 v1.heap.size #[.int .i64 m, .int .i64 p0, .int .i64 p1, .bool o0, .bool false, .bool sp, .int .u32 a, .int .u32 b] := Row.step (by go_simp) (by go_simp) hb2
  obtain ⟨W_2, W_2'⟩ : Row v2 (v1.heap.size + 1) #[.int .i64 m, .int .i64 p0, .int .i64 p1, .bool o0, .bool false, .bool sp, .int .u32 a, .int .u32 b] := Row.step (by go_simp) (by go_simp) hb2
  have hB_2 : Below w.heap.size w v2 := bk (by go_simp) (by first | (go_simp; done) | (go_simp; omega) | exact Below.size (by assumption)) hb2
  clear F_1 F_1' C_1 C_1' hB_1 hb2
  have hz_2 : w.heap.size ≤ v2.heap.size := hB_2.size
  have hl_F_2 := isRow.lt F_2
  have ne_F_2_0 : ¬ w.heap.size = v2.heap.size := by omega
  have en_F_2_0 : ¬ v2.heap.size = w.heap.size := by omega
  have hl_C_2 := isRow.lt C_2
  have ne_C_2_0 : ¬ (w.heap.size + 1) = v2.heap.size := by omega
  have en_C_2_0 : ¬ v2.heap.size = (w.heap.size + 1) := by omega
  have hl_G_2 := isRow.lt G_2
  have ne_G_2_0 : ¬ v1.heap.size = v2.heap.size := by omega
  have en_G_2_0 : ¬ v2.heap.size = v1.heap.size := by omega
  have hl_W_2 := isRow.lt W_2
  have ne_W_2_0 : ¬ (v1.heap.size + 1) = v2.heap.size := by omega
  have en_W_2_0 : ¬ v2.heap.size = (v1.heap.size + 1) := by omega
  go_wp2_with fail
  refine (HSH.out _).mono ?_
  rintro e v3 ⟨rfl, hb3⟩
  obtain ⟨F_3, F_3'⟩ : Row v3 w.heap.size #[.int .i64 m, .int .i64 p0, .int .i64 p1, .bool o0, .bool o1, .bool sp, .int .u32 a, .int .u32 b] := Row.step (by go_simp) (by go_simp) hb3
  obtain ⟨C_3, C_3'⟩ : Row v3 (w.heap.size + 1) #[.int .i64 id, .int .i64 pr, .int .i64 gp, .bool is] := Row.step (by go_simp) (by go_simp) hb3
  obtain ⟨G_3, G_3'⟩ : Row v3 v1.heap.size #[.int .i64 m, .int .i64 p0, .int .i64 p1, .bool o0, .bool false, .bool sp, .int .u32 a, .int .u32 b] := Row.step (by go_simp) (by go_simp) hb3
  obtain ⟨W_3, W_3'⟩ : Row v3 (v1.heap.size + 1) #[.int .i64 m, .int .i64 p0, .int .i64 p1, .bool o0, .bool false, .bool sp, .int .u32 a, .int .u32 b] := Row.step (by go_simp) (by go_simp) hb3
  have hB_3 : Below w.heap.size w v3 := bk (by go_simp) (by first | (go_simp; done) | (go_simp; omega) | exact Below.size (by assumption)) hb3
  clear F_2 F_2' C_2 C_2' G_2 G_2' W_2 W_2' hB_2 hb3
  have hz_3 : w.heap.size ≤ v3.heap.size := hB_3.size
  have hl_F_3 := isRow.lt F_3
  have ne_F_3_0 : ¬ w.heap.size = v3.heap.size := by omega
  have en_F_3_0 : ¬ v3.heap.size = w.heap.size := by omega
  have hl_C_3 := isRow.lt C_3
  have ne_C_3_0 : ¬ (w.heap.size + 1) = v3.heap.size := by omega
  have en_C_3_0 : ¬ v3.heap.size = (w.heap.size + 1) := by omega
  have hl_G_3 := isRow.lt G_3
  have ne_G_3_0 : ¬ v1.heap.size = v3.heap.size := by omega
  have en_G_3_0 : ¬ v3.heap.size = v1.heap.size := by omega
  have hl_W_3 := isRow.lt W_3
  have ne_W_3_0 : ¬ (v1.heap.size + 1) = v3.heap.size := by omega
  have en_W_3_0 : ¬ v3.heap.size = (v1.heap.size + 1) := by omega
  go_wp2_with fail
  refine (HMA.out _).mono ?_
  rintro e v4 ⟨rfl, hb4⟩
  obtain ⟨F_4, F_4'⟩ : Row v4 w.heap.size #[.int .i64 m, .int .i64 p0, .int .i64 p1, .bool o0, .bool o1, .bool sp, .int .u32 a, .int .u32 b] := Row.step (by go_simp) (by go_simp) hb4
  obtain ⟨C_4, C_4'⟩ : Row v4 (w.heap.size + 1) #[.int .i64 id, .int .i64 pr, .int .i64 gp, .bool is] := Row.step (by go_simp) (by go_simp) hb4
  obtain ⟨G_4, G_4'⟩ : Row v4 v1.heap.size #[.int .i64 m, .int .i64 p0, .int .i64 p1, .bool o0, .bool false, .bool sp, .int .u32 a, .int .u32 b] := Row.step (by go_simp) (by go_simp) hb4
  obtain ⟨W_4, W_4'⟩ : Row v4 (v1.heap.size + 1) #[.int .i64 m, .int .i64 p0, .int .i64 p1, .bool o0, .bool false, .bool sp, .int .u32 a, .int .u32 b] := Row.step (by go_simp) (by go_simp) hb4
  have hB_4 : Below w.heap.size w v4 := bk (by go_simp) (by first | (go_simp; done) | (go_simp; omega) | exact Below.size (by assumption)) hb4
  clear F_3 F_3' C_3 C_3' G_3 G_3' W_3 W_3' hB_3 hb4
  have hz_4 : w.heap.size ≤ v4.heap.size := hB_4.size
  have hl_F_4 := isRow.lt F_4
  have ne_F_4_0 : ¬ w.heap.size = v4.heap.size := by omega
  have en_F_4_0 : ¬ v4.heap.size = w.heap.size := by omega
  have hl_C_4 := isRow.lt C_4
  have ne_C_4_0 : ¬ (w.heap.size + 1) = v4.heap.size := by omega
  have en_C_4_0 : ¬ v4.heap.size = (w.heap.size + 1) := by omega
  have hl_G_4 := isRow.lt G_4
  have ne_G_4_0 : ¬ v1.heap.size = v4.heap.size := by omega
  have en_G_4_0 : ¬ v4.heap.size = v1.heap.size := by omega
  have hl_W_4 := isRow.lt W_4
  have ne_W_4_0 : ¬ (v1.heap.size + 1) = v4.heap.size := by omega
  have en_W_4_0 : ¬ v4.heap.size = (v1.heap.size + 1) := by omega
  have ne_F_H : ¬ w.heap.size = v4.heap.size := by omega
  have en_F_H : ¬ v4.heap.size = w.heap.size := by omega
  have ne_C_H : ¬ (w.heap.size + 1) = v4.heap.size := by omega
  have en_C_H : ¬ v4.heap.size = (w.heap.size + 1) := by omega
  have ne_G_H : ¬ v1.heap.size = v4.heap.size := by omega
  have en_G_H : ¬ v4.heap.size = v1.heap.size := by omega
  have ne_W_H : ¬ (v1.heap.size + 1) = v4.heap.size := by omega
  have en_W_H : ¬ v4.heap.size = (v1.heap.size + 1) := by omega
  clear h1
  go_wp2_with fail
  refine (HDR.out _ v4.heap.size (by go_simp) (by go_simp)).mono ?_
  rintro e v5 ⟨rfl, ⟨H_5, H_5'⟩, hA5⟩
  obtain ⟨F_5, F_5'⟩ : Row v5 w.heap.size #[.int .i64 m, .int .i64 p0, .int .i64 p1, .bool o0, .bool o1, .bool sp, .int .u32 a, .int .u32 b] := hA5.row ⟨by go_simp, by go_simp⟩ (by omega)
  obtain ⟨C_5, C_5'⟩ : Row v5 (w.heap.size + 1) #[.int .i64 id, .int .i64 pr, .int .i64 gp, .bool is] := hA5.row ⟨by go_simp, by go_simp⟩ (by omega)
  obtain ⟨G_5, G_5'⟩ : Row v5 v1.heap.size #[.int .i64 m, .int .i64 p0, .int .i64 p1, .bool o0, .bool false, .bool sp, .int .u32 a, .int .u32 b] := hA5.row ⟨by go_simp, by go_simp⟩ (by omega)
  obtain ⟨W_5, W_5'⟩ : Row v5 (v1.heap.size + 1) #[.int .i64 m, .int .i64 p0, .int .i64 p1, .bool o0, .bool false, .bool sp, .int .u32 a, .int .u32 b] := hA5.row ⟨by go_simp, by go_simp⟩ (by omega)
  have hB_5 : Below w.heap.size w v5 := hA5.below (by go_simp) (by first | omega | (go_simp; done) | (go_simp; omega)) (by first | (go_simp; done) | (go_simp; omega) | exact Below.size (by assumption))
  clear F_4 F_4' C_4 C_4' G_4 G_4' W_4 W_4' hB_4 hA5
  have hz_5 : w.heap.size ≤ v5.heap.size := hB_5.size
  have hl_F_5 := isRow.lt F_5
  have ne_F_5_0 : ¬ w.heap.size = v5.heap.size := by omega
  have en_F_5_0 : ¬ v5.heap.size = w.heap.size := by omega
  have hl_C_5 := isRow.lt C_5
  have ne_C_5_0 : ¬ (w.heap.size + 1) = v5.heap.size := by omega
  have en_C_5_0 : ¬ v5.heap.size = (w.heap.size + 1) := by omega
  have hl_G_5 := isRow.lt G_5
  have ne_G_5_0 : ¬ v1.heap.size = v5.heap.size := by omega
  have en_G_5_0 : ¬ v5.heap.size = v1.heap.size := by omega
  have hl_W_5 := isRow.lt W_5
  have ne_W_5_0 : ¬ (v1.heap.size + 1) = v5.heap.size := by omega
  have en_W_5_0 : ¬ v5.heap.size = (v1.heap.size + 1) := by omega
  have hl_H_5 := isRow.lt H_5
  have ne_H_5_0 : ¬ v4.heap.size = v5.heap.size := by omega
  have en_H_5_0 : ¬ v5.heap.size = v4.heap.size := by omega
  go_wp2_with fail
  refine (HRU.out _).mono ?_
  rintro e v6 ⟨rfl, hb6⟩
  obtain ⟨F_6, F_6'⟩ : Row v6 w.heap.size #[.int .i64 m, .int .i64 p0, .int .i64 p1, .bool o0, .bool o1, .bool sp, .int .u32 a, .int .u32 b] := Row.step (by go_simp) (by go_simp) hb6
  obtain ⟨C_6, C_6'⟩ : Row v6 (w.heap.size + 1) #[.int .i64 id, .int .i64 pr, .int .i64 gp, .bool is] := Row.step (by go_simp) (by go_simp) hb6
  obtain ⟨G_6, G_6'⟩ : Row v6 v1.heap.size #[.int .i64 m, .int .i64 p0, .int .i64 p1, .bool o0, .bool false, .bool sp, .int .u32 a, .int .u32 b] := Row.step (by go_simp) (by go_simp) hb6
  obtain ⟨W_6, W_6'⟩ : Row v6 (v1.heap.size + 1) #[.int .i64 m, .int .i64 p0, .int .i64 p1, .bool o0, .bool false, .bool sp, .int .u32 a, .int .u32 b] := Row.step (by go_simp) (by go_simp) hb6
  obtain ⟨H_6, H_6'⟩ : Row v6 v4.heap.size #[.int .i64 m, .int .i64 p0, .int .i64 p1, .bool o0, .bool o1, .bool sp, .int .u32 a, .int .u32 y] := Row.step (by go_simp) (by go_simp) hb6
  have hB_6 : Below w.heap.size w v6 := bk (by go_simp) (by first | (go_simp; done) | (go_simp; omega) | exact Below.size (by assumption)) hb6
  clear F_5 F_5' C_5 C_5' G_5 G_5' W_5 W_5' H_5 H_5' hB_5 hb6
  have hz_6 : w.heap.size ≤ v6.heap.size := hB_6.size
  have hl_F_6 := isRow.lt F_6
  have ne_F_6_0 : ¬ w.heap.size = v6.heap.size := by omega
  have en_F_6_0 : ¬ v6.heap.size = w.heap.size := by omega
  have hl_C_6 := isRow.lt C_6
  have ne_C_6_0 : ¬ (w.heap.size + 1) = v6.heap.size := by omega
  have en_C_6_0 : ¬ v6.heap.size = (w.heap.size + 1) := by omega
  have hl_G_6 := isRow.lt G_6
  have ne_G_6_0 : ¬ v1.heap.size = v6.heap.size := by omega
  have en_G_6_0 : ¬ v6.heap.size = v1.heap.size := by omega
  have hl_W_6 := isRow.lt W_6
  have ne_W_6_0 : ¬ (v1.heap.size + 1) = v6.heap.size := by omega
  have en_W_6_0 : ¬ v6.heap.size = (v1.heap.size + 1) := by omega
  have hl_H_6 := isRow.lt H_6
  have ne_H_6_0 : ¬ v4.heap.size = v6.heap.size := by omega
  have en_H_6_0 : ¬ v6.heap.size = v4.heap.size := by omega
  have h1 := HG.out
  have k0 : IntKind.i64.wrap 0 = 0 := by decide
  have k1 : IntKind.i64.wrap 1 = 1 := by decide
  have hp := HP.out
  have hrun := HRN.out
  have kD : IntKind.i64.wrap (D - 1) = D - 1 := IntWalk.i64_in _ (by omega)
  go_wp2_with fail
  refine wp_region_held_drew (S := fun w' => isRow w' w.heap.size ∧ rowAt w' w.heap.size = #[.int .i64 m, .int .i64 p0, .int .i64 p1, .bool o0, .bool o1, .bool sp, .int .u32 a, .int .u32 b] ∧ isRow w' (w.heap.size + 1) ∧ rowAt w' (w.heap.size + 1) = #[.int .i64 id, .int .i64 pr, .int .i64 gp, .bool is] ∧ isRow w' v1.heap.size ∧ rowAt w' v1.heap.size = #[.int .i64 m, .int .i64 p0, .int .i64 p1, .bool o0, .bool false, .bool sp, .int .u32 a, .int .u32 b] ∧ isRow w' (v1.heap.size + 1) ∧ rowAt w' (v1.heap.size + 1) = #[.int .i64 m, .int .i64 p0, .int .i64 p1, .bool o0, .bool false, .bool sp, .int .u32 a, .int .u32 b] ∧ isRow w' v4.heap.size ∧ rowAt w' v4.heap.size = #[.int .i64 m, .int .i64 p0, .int .i64 p1, .bool o0, .bool o1, .bool sp, .int .u32 a, .int .u32 y] ∧ Below w.heap.size w w') (by kernel_rfl) ⟨F_6, F_6', C_6, C_6', G_6, G_6', W_6, W_6', H_6, H_6', below_drew0 hB_6⟩ (fun hHeld => ?_)
  refine wpAnyH_take (i := 0) (oi := { dst := some 63, op := Op.move (Operand.tmp 7), type := 4, pos := "law.go:167", after := #[], guard := none }) (v := ?_) rfl (by kernel_rfl) (by kernel_rfl) (by kernel_rfl) (fun _ _ _ h => h) (Or.inl ⟨by rfl, ?_⟩) (by assumption) ?_
  rotate_left
  · (intro w_ hS_; (try dsimp only at hS_); go_simp; try with_reducible rfl)
  try simp only [Act.put, List.setIfInBounds_toArray, List.set_cons_zero, List.set_cons_succ]
  refine wpAnyH_take (i := 1) (oi := { dst := some 64, op := Op.move (Operand.tmp 63), type := 4, pos := "law.go:167", after := #[{ on := 0, ground := Ground.data }], guard := none }) (v := ?_) rfl (by kernel_rfl) (by kernel_rfl) (by kernel_rfl) (fun _ _ _ h => h) (Or.inl ⟨by rfl, ?_⟩) (by assumption) ?_
  rotate_left
  · (intro w_ hS_; (try dsimp only at hS_); go_simp; try with_reducible rfl)
  try simp only [Act.put, List.setIfInBounds_toArray, List.set_cons_zero, List.set_cons_succ]
  refine wpAnyH_take (i := 2) (oi := { dst := some 65, op := Op.move (Operand.tmp 13), type := 4, pos := "law.go:167", after := #[{ on := 1, ground := Ground.guard }], guard := some (1, true) }) (v := ?_) rfl (by kernel_rfl) (by kernel_rfl) (by kernel_rfl) (fun _ _ _ h => h) (Or.inl ⟨by rfl, ?_⟩) (by assumption) ?_
  rotate_left
  · (intro w_ hS_; (try dsimp only at hS_); go_simp; try with_reducible rfl)
  try simp only [Act.put, List.setIfInBounds_toArray, List.set_cons_zero, List.set_cons_succ]
  refine wpAnyH_take (i := 3) (oi := { dst := some 66, op := Op.move (Operand.tmp 14), type := 3, pos := "law.go:167", after := #[{ on := 1, ground := Ground.guard }], guard := some (1, true) }) (v := ?_) rfl (by kernel_rfl) (by kernel_rfl) (by kernel_rfl) (fun _ _ _ h => h) (Or.inl ⟨by rfl, ?_⟩) (by assumption) ?_
  rotate_left
  · (intro w_ hS_; (try dsimp only at hS_); go_simp; try with_reducible rfl)
  try simp only [Act.put, List.setIfInBounds_toArray, List.set_cons_zero, List.set_cons_succ]
  refine wpAnyH_take (i := 4) (oi := { dst := some 67, op := Op.binOp BinOp.neq 3 (Operand.tmp 66) (Operand.const (Value.int IntKind.i64 255)) 3, type := 4, pos := "law.go:167", after := #[{ on := 3, ground := Ground.data }, { on := 1, ground := Ground.guard }], guard := some (1, true) }) (v := ?_) rfl (by kernel_rfl) (by kernel_rfl) (by kernel_rfl) (fun _ _ _ h => h) (Or.inl ⟨by rfl, ?_⟩) (by assumption) ?_
  rotate_left
  · (intro w_ hS_; (try dsimp only at hS_); go_simp; try with_reducible rfl)
  try simp only [Act.put, List.setIfInBounds_toArray, List.set_cons_zero, List.set_cons_succ]
  refine wpAnyH_take (i := 5) (oi := { dst := some 68, op := Op.move (Operand.tmp 67), type := 4, pos := "law.go:167", after := #[{ on := 4, ground := Ground.data }, { on := 1, ground := Ground.chain }, { on := 1, ground := Ground.guard }], guard := some (1, true) }) (v := ?_) rfl (by kernel_rfl) (by kernel_rfl) (by kernel_rfl) (fun _ _ _ h => h) (Or.inl ⟨by rfl, ?_⟩) (by assumption) ?_
  rotate_left
  · (intro w_ hS_; (try dsimp only at hS_); go_simp; try with_reducible rfl)
  try simp only [Act.put, List.setIfInBounds_toArray, List.set_cons_zero, List.set_cons_succ]
  refine wpAnyH_take (i := 6) (oi := { dst := some 69, op := Op.move (Operand.tmp 15), type := 3, pos := "law.go:167", after := #[{ on := 5, ground := Ground.guard }], guard := some (5, true) }) (v := ?_) rfl (by kernel_rfl) (by kernel_rfl) (by kernel_rfl) (fun _ _ _ h => h) (Or.inl ⟨by rfl, ?_⟩) (by assumption) ?_
  rotate_left
  · (intro w_ hS_; (try dsimp only at hS_); go_simp; try with_reducible rfl)
  try simp only [Act.put, List.setIfInBounds_toArray, List.set_cons_zero, List.set_cons_succ]
  refine wpAnyH_take (i := 7) (oi := { dst := some 70, op := Op.move (Operand.tmp 2), type := 3, pos := "law.go:167", after := #[{ on := 5, ground := Ground.guard }], guard := some (5, true) }) (v := ?_) rfl (by kernel_rfl) (by kernel_rfl) (by kernel_rfl) (fun _ _ _ h => h) (Or.inl ⟨by rfl, ?_⟩) (by assumption) ?_
  rotate_left
  · (intro w_ hS_; (try dsimp only at hS_); go_simp; try with_reducible rfl)
  try simp only [Act.put, List.setIfInBounds_toArray, List.set_cons_zero, List.set_cons_succ]
  refine wpAnyH_take (i := 8) (oi := { dst := some 71, op := Op.binOp BinOp.eql 3 (Operand.tmp 69) (Operand.tmp 70) 3, type := 4, pos := "law.go:167", after := #[{ on := 6, ground := Ground.data }, { on := 7, ground := Ground.data }, { on := 5, ground := Ground.guard }], guard := some (5, true) }) (v := ?_) rfl (by kernel_rfl) (by kernel_rfl) (by kernel_rfl) (fun _ _ _ h => h) (Or.inl ⟨by rfl, ?_⟩) (by assumption) ?_
  rotate_left
  · (intro w_ hS_; (try dsimp only at hS_); go_simp; try with_reducible rfl)
  try simp only [Act.put, List.setIfInBounds_toArray, List.set_cons_zero, List.set_cons_succ]
  refine wpAnyH_take (i := 9) (oi := { dst := some 72, op := Op.pick (Operand.tmp 68) (Operand.tmp 71) (Operand.const (Value.bool false)), type := 4, pos := "law.go:167", after := #[{ on := 5, ground := Ground.data }, { on := 8, ground := Ground.data }, { on := 1, ground := Ground.guard }], guard := some (1, true) }) (v := ?_) rfl (by kernel_rfl) (by kernel_rfl) (by kernel_rfl) (fun _ _ _ h => h) (Or.inl ⟨by rfl, ?_⟩) (by assumption) ?_
  rotate_left
  · (intro w_ hS_; (try dsimp only at hS_); go_simp; try with_reducible rfl)
  try simp only [Act.put, List.setIfInBounds_toArray, List.set_cons_zero, List.set_cons_succ]
  refine wpAnyH_take (i := 10) (oi := { dst := some 73, op := Op.binOp BinOp.eql 4 (Operand.tmp 65) (Operand.tmp 72) 4, type := 4, pos := "law.go:167", after := #[{ on := 2, ground := Ground.data }, { on := 9, ground := Ground.data }, { on := 1, ground := Ground.guard }], guard := some (1, true) }) (v := ?_) rfl (by kernel_rfl) (by kernel_rfl) (by kernel_rfl) (fun _ _ _ h => h) (Or.inl ⟨by rfl, ?_⟩) (by assumption) ?_
  rotate_left
  · (intro w_ hS_; (try dsimp only at hS_); go_simp; try with_reducible rfl)
  try simp only [Act.put, List.setIfInBounds_toArray, List.set_cons_zero, List.set_cons_succ]
  refine wpAnyH_take (i := 11) (oi := { dst := some 74, op := Op.pick (Operand.tmp 64) (Operand.tmp 73) (Operand.const (Value.bool false)), type := 4, pos := "law.go:167", after := #[{ on := 1, ground := Ground.data }, { on := 10, ground := Ground.data }], guard := none }) (v := ?_) rfl (by kernel_rfl) (by kernel_rfl) (by kernel_rfl) (fun _ _ _ h => h) (Or.inl ⟨by rfl, ?_⟩) (by assumption) ?_
  rotate_left
  · (intro w_ hS_; (try dsimp only at hS_); go_simp; try with_reducible rfl)
  try simp only [Act.put, List.setIfInBounds_toArray, List.set_cons_zero, List.set_cons_succ]
  refine wpAnyH_take (i := 12) (oi := { dst := some 75, op := Op.move (Operand.tmp 74), type := 4, pos := "law.go:167", after := #[{ on := 11, ground := Ground.data }, { on := 5, ground := Ground.chain }], guard := none }) (v := ?_) rfl (by kernel_rfl) (by kernel_rfl) (by kernel_rfl) (fun _ _ _ h => h) (Or.inl ⟨by rfl, ?_⟩) (by assumption) ?_
  rotate_left
  · (intro w_ hS_; (try dsimp only at hS_); go_simp; try with_reducible rfl)
  try simp only [Act.put, List.setIfInBounds_toArray, List.set_cons_zero, List.set_cons_succ]
  refine wpAnyH_take (i := 13) (oi := { dst := some 76, op := Op.move (Operand.tmp 2), type := 3, pos := "law.go:167", after := #[{ on := 12, ground := Ground.guard }], guard := some (12, true) }) (v := ?_) rfl (by kernel_rfl) (by kernel_rfl) (by kernel_rfl) (fun _ _ _ h => h) (Or.inl ⟨by rfl, ?_⟩) (by assumption) ?_
  rotate_left
  · (intro w_ hS_; (try dsimp only at hS_); go_simp; try with_reducible rfl)
  try simp only [Act.put, List.setIfInBounds_toArray, List.set_cons_zero, List.set_cons_succ]
  refine wpAnyH_take (i := 14) (oi := { dst := some 77, op := Op.binOp BinOp.and 3 (Operand.tmp 76) (Operand.const (Value.int IntKind.i64 1)) 3, type := 3, pos := "law.go:167", after := #[{ on := 13, ground := Ground.data }, { on := 12, ground := Ground.guard }], guard := some (12, true) }) (v := ?_) rfl (by kernel_rfl) (by kernel_rfl) (by kernel_rfl) (fun _ _ _ h => h) (Or.inl ⟨by rfl, ?_⟩) (by assumption) ?_
  rotate_left
  · (intro w_ hS_; (try dsimp only at hS_); go_simp; try with_reducible rfl)
  try simp only [Act.put, List.setIfInBounds_toArray, List.set_cons_zero, List.set_cons_succ]
  refine wpAnyH_take (i := 15) (oi := { dst := some 78, op := Op.binOp BinOp.sub 3 (Operand.const (Value.int IntKind.i64 1)) (Operand.tmp 77) 3, type := 3, pos := "law.go:167", after := #[{ on := 14, ground := Ground.data }, { on := 12, ground := Ground.guard }], guard := some (12, true) }) (v := ?_) rfl (by kernel_rfl) (by kernel_rfl) (by kernel_rfl) (fun _ _ _ h => h) (Or.inl ⟨by rfl, ?_⟩) (by assumption) ?_
  rotate_left
  · (intro w_ hS_; (try dsimp only at hS_); go_simp; try with_reducible rfl)
  try simp only [Act.put, List.setIfInBounds_toArray, List.set_cons_zero, List.set_cons_succ]
  refine wpAnyH_take (i := 16) (oi := { dst := some 79, op := Op.fieldAddr 29 (Operand.tmp 12) 4, type := 0, pos := "law.go:167", after := #[{ on := 12, ground := Ground.guard }], guard := some (12, true) }) (v := ?_) rfl (by kernel_rfl) (by kernel_rfl) (by kernel_rfl) (fun _ _ _ h => h) (Or.inl ⟨by rfl, ?_⟩) (by assumption) ?_
  rotate_left
  · (intro w_ hS_; (try dsimp only at hS_); go_simp; try with_reducible rfl)
  try simp only [Act.put, List.setIfInBounds_toArray, List.set_cons_zero, List.set_cons_succ]
  refine wpAnyH_take (i := 17) (oi := { dst := some 80, op := Op.fieldAddr 27 (Operand.tmp 79) 0, type := 0, pos := "law.go:167", after := #[{ on := 16, ground := Ground.data }, { on := 12, ground := Ground.guard }], guard := some (12, true) }) (v := ?_) rfl (by kernel_rfl) (by kernel_rfl) (by kernel_rfl) (fun _ _ _ h => h) (Or.inl ⟨by rfl, ?_⟩) (by assumption) ?_
  rotate_left
  · (intro w_ hS_; (try dsimp only at hS_); go_simp; try with_reducible rfl)
  try simp only [Act.put, List.setIfInBounds_toArray, List.set_cons_zero, List.set_cons_succ]
  refine wpAnyH_take (i := 18) (oi := { dst := some 81, op := Op.indexAddr 25 (Operand.tmp 80) (Operand.tmp 78), type := 0, pos := "law.go:167", after := #[{ on := 17, ground := Ground.data }, { on := 15, ground := Ground.data }, { on := 12, ground := Ground.guard }], guard := some (12, true) }) (v := ?_) rfl (by kernel_rfl) (by kernel_rfl) (by kernel_rfl) (fun _ _ _ h => h) (Or.inl ⟨by rfl, ?_⟩) (by assumption) ?_
  rotate_left
  · (intro w_ hS_; (try dsimp only at hS_); go_simp; try with_reducible rfl)
  try simp only [Act.put, List.setIfInBounds_toArray, List.set_cons_zero, List.set_cons_succ]
  refine wpAnyH_take (i := 19) (oi := { dst := some 82, op := Op.load 24 (Operand.tmp 81), type := 24, pos := "law.go:167", after := #[{ on := 18, ground := Ground.data }, { on := 12, ground := Ground.guard }], guard := some (12, true) }) (v := ?_) rfl (by kernel_rfl) (by kernel_rfl) (by kernel_rfl) (fun _ _ _ h => h) (Or.inl ⟨by rfl, ?_⟩) (by assumption) ?_
  rotate_left
  · (intro w_ hS_; (try dsimp only at hS_); go_simp; try with_reducible rfl)
  try simp only [Act.put, List.setIfInBounds_toArray, List.set_cons_zero, List.set_cons_succ]
  refine wpAnyH_take (i := 20) (oi := { dst := some 83, op := Op.move (Operand.tmp 2), type := 3, pos := "law.go:167", after := #[{ on := 12, ground := Ground.guard }], guard := some (12, true) }) (v := ?_) rfl (by kernel_rfl) (by kernel_rfl) (by kernel_rfl) (fun _ _ _ h => h) (Or.inl ⟨by rfl, ?_⟩) (by assumption) ?_
  rotate_left
  · (intro w_ hS_; (try dsimp only at hS_); go_simp; try with_reducible rfl)
  try simp only [Act.put, List.setIfInBounds_toArray, List.set_cons_zero, List.set_cons_succ]
  refine wpAnyH_take (i := 21) (oi := { dst := some 84, op := Op.binOp BinOp.and 3 (Operand.tmp 83) (Operand.const (Value.int IntKind.i64 1)) 3, type := 3, pos := "law.go:167", after := #[{ on := 20, ground := Ground.data }, { on := 12, ground := Ground.guard }], guard := some (12, true) }) (v := ?_) rfl (by kernel_rfl) (by kernel_rfl) (by kernel_rfl) (fun _ _ _ h => h) (Or.inl ⟨by rfl, ?_⟩) (by assumption) ?_
  rotate_left
  · (intro w_ hS_; (try dsimp only at hS_); go_simp; try with_reducible rfl)
  try simp only [Act.put, List.setIfInBounds_toArray, List.set_cons_zero, List.set_cons_succ]
  refine wpAnyH_take (i := 22) (oi := { dst := some 85, op := Op.binOp BinOp.sub 3 (Operand.const (Value.int IntKind.i64 1)) (Operand.tmp 84) 3, type := 3, pos := "law.go:167", after := #[{ on := 21, ground := Ground.data }, { on := 12, ground := Ground.guard }], guard := some (12, true) }) (v := ?_) rfl (by kernel_rfl) (by kernel_rfl) (by kernel_rfl) (fun _ _ _ h => h) (Or.inl ⟨by rfl, ?_⟩) (by assumption) ?_
  rotate_left
  · (intro w_ hS_; (try dsimp only at hS_); go_simp; try with_reducible rfl)
  try simp only [Act.put, List.setIfInBounds_toArray, List.set_cons_zero, List.set_cons_succ]
  refine wpAnyH_take (i := 23) (oi := { dst := some 86, op := Op.fieldAddr 29 (Operand.tmp 3) 4, type := 0, pos := "law.go:167", after := #[{ on := 12, ground := Ground.guard }], guard := some (12, true) }) (v := ?_) rfl (by kernel_rfl) (by kernel_rfl) (by kernel_rfl) (fun _ _ _ h => h) (Or.inl ⟨by rfl, ?_⟩) (by assumption) ?_
  rotate_left
  · (intro w_ hS_; (try dsimp only at hS_); go_simp; try with_reducible rfl)
  try simp only [Act.put, List.setIfInBounds_toArray, List.set_cons_zero, List.set_cons_succ]
  refine wpAnyH_take (i := 24) (oi := { dst := some 87, op := Op.fieldAddr 27 (Operand.tmp 86) 0, type := 0, pos := "law.go:167", after := #[{ on := 23, ground := Ground.data }, { on := 12, ground := Ground.guard }], guard := some (12, true) }) (v := ?_) rfl (by kernel_rfl) (by kernel_rfl) (by kernel_rfl) (fun _ _ _ h => h) (Or.inl ⟨by rfl, ?_⟩) (by assumption) ?_
  rotate_left
  · (intro w_ hS_; (try dsimp only at hS_); go_simp; try with_reducible rfl)
  try simp only [Act.put, List.setIfInBounds_toArray, List.set_cons_zero, List.set_cons_succ]
  refine wpAnyH_take (i := 25) (oi := { dst := some 88, op := Op.indexAddr 25 (Operand.tmp 87) (Operand.tmp 85), type := 0, pos := "law.go:167", after := #[{ on := 24, ground := Ground.data }, { on := 22, ground := Ground.data }, { on := 12, ground := Ground.guard }], guard := some (12, true) }) (v := ?_) rfl (by kernel_rfl) (by kernel_rfl) (by kernel_rfl) (fun _ _ _ h => h) (Or.inl ⟨by rfl, ?_⟩) (by assumption) ?_
  rotate_left
  · (intro w_ hS_; (try dsimp only at hS_); go_simp; try with_reducible rfl)
  try simp only [Act.put, List.setIfInBounds_toArray, List.set_cons_zero, List.set_cons_succ]
  refine wpAnyH_take (i := 26) (oi := { dst := some 89, op := Op.load 24 (Operand.tmp 88), type := 24, pos := "law.go:167", after := #[{ on := 25, ground := Ground.data }, { on := 12, ground := Ground.guard }], guard := some (12, true) }) (v := ?_) rfl (by kernel_rfl) (by kernel_rfl) (by kernel_rfl) (fun _ _ _ h => h) (Or.inl ⟨by rfl, ?_⟩) (by assumption) ?_
  rotate_left
  · (intro w_ hS_; (try dsimp only at hS_); go_simp; try with_reducible rfl)
  try simp only [Act.put, List.setIfInBounds_toArray, List.set_cons_zero, List.set_cons_succ]
  refine wpAnyH_take (i := 27) (oi := { dst := some 90, op := Op.binOp BinOp.eql 24 (Operand.tmp 82) (Operand.tmp 89) 24, type := 4, pos := "law.go:167", after := #[{ on := 19, ground := Ground.data }, { on := 26, ground := Ground.data }, { on := 12, ground := Ground.guard }], guard := some (12, true) }) (v := ?_) rfl (by kernel_rfl) (by kernel_rfl) (by kernel_rfl) (fun _ _ _ h => h) (Or.inl ⟨by rfl, ?_⟩) (by assumption) ?_
  rotate_left
  · (intro w_ hS_; (try dsimp only at hS_); go_simp; try with_reducible rfl)
  try simp only [Act.put, List.setIfInBounds_toArray, List.set_cons_zero, List.set_cons_succ]
  refine wpAnyH_take (i := 28) (oi := { dst := some 91, op := Op.pick (Operand.tmp 75) (Operand.tmp 90) (Operand.const (Value.bool false)), type := 4, pos := "law.go:167", after := #[{ on := 12, ground := Ground.data }, { on := 27, ground := Ground.data }], guard := none }) (v := ?_) rfl (by kernel_rfl) (by kernel_rfl) (by kernel_rfl) (fun _ _ _ h => h) (Or.inl ⟨by rfl, ?_⟩) (by assumption) ?_
  rotate_left
  · (intro w_ hS_; (try dsimp only at hS_); go_simp; try with_reducible rfl)
  try simp only [Act.put, List.setIfInBounds_toArray, List.set_cons_zero, List.set_cons_succ]
  refine wpAnyH_take (i := 29) (oi := { dst := some 92, op := Op.move (Operand.tmp 91), type := 4, pos := "law.go:167", after := #[{ on := 28, ground := Ground.data }, { on := 12, ground := Ground.chain }], guard := none }) (v := ?_) rfl (by kernel_rfl) (by kernel_rfl) (by kernel_rfl) (fun _ _ _ h => h) (Or.inl ⟨by rfl, ?_⟩) (by assumption) ?_
  rotate_left
  · (intro w_ hS_; (try dsimp only at hS_); go_simp; try with_reducible rfl)
  try simp only [Act.put, List.setIfInBounds_toArray, List.set_cons_zero, List.set_cons_succ]
  refine wpAnyH_take (i := 30) (oi := { dst := some 93, op := Op.move (Operand.tmp 13), type := 4, pos := "law.go:167", after := #[{ on := 29, ground := Ground.guard }], guard := some (29, true) }) (v := ?_) rfl (by kernel_rfl) (by kernel_rfl) (by kernel_rfl) (fun _ _ _ h => h) (Or.inl ⟨by rfl, ?_⟩) (by assumption) ?_
  rotate_left
  · (intro w_ hS_; (try dsimp only at hS_); go_simp; try with_reducible rfl)
  try simp only [Act.put, List.setIfInBounds_toArray, List.set_cons_zero, List.set_cons_succ]
  refine wpAnyH_take (i := 31) (oi := { dst := some 94, op := Op.move (Operand.tmp 93), type := 4, pos := "law.go:167", after := #[{ on := 30, ground := Ground.data }, { on := 29, ground := Ground.chain }, { on := 29, ground := Ground.guard }], guard := some (29, true) }) (v := ?_) rfl (by kernel_rfl) (by kernel_rfl) (by kernel_rfl) (fun _ _ _ h => h) (Or.inl ⟨by rfl, ?_⟩) (by assumption) ?_
  rotate_left
  · (intro w_ hS_; (try dsimp only at hS_); go_simp; try with_reducible rfl)
  try simp only [Act.put, List.setIfInBounds_toArray, List.set_cons_zero, List.set_cons_succ]
  refine wpAnyH_take (i := 32) (oi := { dst := some 95, op := Op.load 29 (Operand.tmp 12), type := 29, pos := "law.go:167", after := #[{ on := 31, ground := Ground.guard }], guard := some (31, true) }) (v := ?_) rfl (by kernel_rfl) (by kernel_rfl) (by kernel_rfl) (fun _ _ _ h => h) (Or.inl ⟨by rfl, ?_⟩) (by assumption) ?_
  rotate_left
  · (intro w_ hS_; (try dsimp only at hS_); go_simp; try with_reducible rfl)
  try simp only [Act.put, List.setIfInBounds_toArray, List.set_cons_zero, List.set_cons_succ]
  refine wpAnyH_take (i := 34) (oi := { dst := some 97, op := Op.load 29 (Operand.tmp 3), type := 29, pos := "law.go:167", after := #[{ on := 31, ground := Ground.guard }], guard := some (31, true) }) (v := ?_) rfl (by kernel_rfl) (by kernel_rfl) (by kernel_rfl) (fun _ _ _ h => h) (Or.inl ⟨by rfl, ?_⟩) (by assumption) ?_
  rotate_left
  · (intro w_ hS_; (try dsimp only at hS_); go_simp; try with_reducible rfl)
  try simp only [Act.put, List.setIfInBounds_toArray, List.set_cons_zero, List.set_cons_succ]
  refine wpAnyH_ready (rs := [33]) (by kernel_rfl) (by simp) ?_
  refine AllReadyH.cons (o := { dst := some 96, op := Op.call { callee := Callee.value (Operand.func 20), args := #[Operand.tmp 95], argTypes := #[29] }, type := 3, pos := "law.go:167", after := #[{ on := 32, ground := Ground.data }, { on := 31, ground := Ground.chain }, { on := 31, ground := Ground.guard }], guard := some (31, true) }) rfl (fun K hK => ?_) AllReadyH.nil
  go_simp
  refine (HDH.out _).mono ?_
  rintro e w4 ⟨rfl, hb⟩
  refine hK.out _ _ ?_ (fun hHeld => ?_)
  · (go_split_ands; exact ⟨rk1 (by assumption) hb, rk2 (by assumption) (by assumption) hb, rk1 (by assumption) hb, rk2 (by assumption) (by assumption) hb, rk1 (by assumption) hb, rk2 (by assumption) (by assumption) hb, rk1 (by assumption) hb, rk2 (by assumption) (by assumption) hb, rk1 (by assumption) hb, rk2 (by assumption) (by assumption) hb, bk (by assumption) (Below.size (by assumption)) hb⟩)
  clear hK K
  try simp only [Act.put, List.setIfInBounds_toArray, List.set_cons_zero, List.set_cons_succ]
  refine wpAnyH_ready (rs := [35]) (by kernel_rfl) (by simp) ?_
  refine AllReadyH.cons (o := { dst := some 98, op := Op.call { callee := Callee.value (Operand.func 20), args := #[Operand.tmp 97], argTypes := #[29] }, type := 3, pos := "law.go:167", after := #[{ on := 34, ground := Ground.data }, { on := 33, ground := Ground.chain }, { on := 31, ground := Ground.guard }], guard := some (31, true) }) rfl (fun K hK => ?_) AllReadyH.nil
  go_simp
  refine (HDF.out _).mono ?_
  rintro e w4 ⟨rfl, hb⟩
  refine hK.out _ _ ?_ (fun hHeld => ?_)
  · (go_split_ands; exact ⟨rk1 (by assumption) hb, rk2 (by assumption) (by assumption) hb, rk1 (by assumption) hb, rk2 (by assumption) (by assumption) hb, rk1 (by assumption) hb, rk2 (by assumption) (by assumption) hb, rk1 (by assumption) hb, rk2 (by assumption) (by assumption) hb, rk1 (by assumption) hb, rk2 (by assumption) (by assumption) hb, bk (by assumption) (Below.size (by assumption)) hb⟩)
  clear hK K
  try simp only [Act.put, List.setIfInBounds_toArray, List.set_cons_zero, List.set_cons_succ]
  refine wpAnyH_take (i := 36) (oi := { dst := some 99, op := Op.binOp BinOp.sub 3 (Operand.tmp 98) (Operand.const (Value.int IntKind.i64 1)) 3, type := 3, pos := "law.go:167", after := #[{ on := 35, ground := Ground.data }, { on := 31, ground := Ground.guard }], guard := some (31, true) }) (v := ?_) rfl (by kernel_rfl) (by kernel_rfl) (by kernel_rfl) (fun _ _ _ h => h) (Or.inl ⟨by rfl, ?_⟩) (by assumption) ?_
  rotate_left
  · (intro w_ hS_; (try dsimp only at hS_); go_simp; try with_reducible rfl)
  try simp only [Act.put, List.setIfInBounds_toArray, List.set_cons_zero, List.set_cons_succ]
  refine wpAnyH_take (i := 37) (oi := { dst := some 100, op := Op.binOp BinOp.eql 3 (Operand.tmp 96) (Operand.tmp 99) 3, type := 4, pos := "law.go:167", after := #[{ on := 33, ground := Ground.data }, { on := 36, ground := Ground.data }, { on := 31, ground := Ground.guard }], guard := some (31, true) }) (v := ?_) rfl (by kernel_rfl) (by kernel_rfl) (by kernel_rfl) (fun _ _ _ h => h) (Or.inl ⟨by rfl, ?_⟩) (by assumption) ?_
  rotate_left
  · (intro w_ hS_; (try dsimp only at hS_); go_simp; try with_reducible rfl)
  try simp only [Act.put, List.setIfInBounds_toArray, List.set_cons_zero, List.set_cons_succ]
  refine wpAnyH_take (i := 38) (oi := { dst := some 101, op := Op.pick (Operand.tmp 94) (Operand.tmp 100) (Operand.const (Value.bool false)), type := 4, pos := "law.go:167", after := #[{ on := 31, ground := Ground.data }, { on := 37, ground := Ground.data }, { on := 29, ground := Ground.guard }], guard := some (29, true) }) (v := ?_) rfl (by kernel_rfl) (by kernel_rfl) (by kernel_rfl) (fun _ _ _ h => h) (Or.inl ⟨by rfl, ?_⟩) (by assumption) ?_
  rotate_left
  · (intro w_ hS_; (try dsimp only at hS_); go_simp; try with_reducible rfl)
  try simp only [Act.put, List.setIfInBounds_toArray, List.set_cons_zero, List.set_cons_succ]
  refine wpAnyH_take (i := 39) (oi := { dst := some 102, op := Op.move (Operand.tmp 101), type := 4, pos := "law.go:167", after := #[{ on := 38, ground := Ground.data }, { on := 35, ground := Ground.chain }, { on := 29, ground := Ground.guard }], guard := some (29, true) }) (v := ?_) rfl (by kernel_rfl) (by kernel_rfl) (by kernel_rfl) (fun _ _ _ h => h) (Or.inl ⟨by rfl, ?_⟩) (by assumption) ?_
  rotate_left
  · (intro w_ hS_; (try dsimp only at hS_); go_simp; try with_reducible rfl)
  try simp only [Act.put, List.setIfInBounds_toArray, List.set_cons_zero, List.set_cons_succ]
  refine wpAnyH_take (i := 40) (oi := { dst := some 103, op := Op.move (Operand.tmp 13), type := 4, pos := "law.go:167", after := #[{ on := 39, ground := Ground.guard }], guard := some (39, false) }) (v := undef) rfl (by kernel_rfl) (by kernel_rfl) (by kernel_rfl) (fun _ _ _ h => h) (Or.inr ⟨by rfl, rfl⟩) (by assumption) ?_
  try simp only [Act.put, List.setIfInBounds_toArray, List.set_cons_zero, List.set_cons_succ]
  refine wpAnyH_take (i := 41) (oi := { dst := some 104, op := Op.unOp UnOp.not 4 (Operand.tmp 103), type := 4, pos := "law.go:167", after := #[{ on := 40, ground := Ground.data }, { on := 39, ground := Ground.guard }], guard := some (39, false) }) (v := undef) rfl (by kernel_rfl) (by kernel_rfl) (by kernel_rfl) (fun _ _ _ h => h) (Or.inr ⟨by rfl, rfl⟩) (by assumption) ?_
  try simp only [Act.put, List.setIfInBounds_toArray, List.set_cons_zero, List.set_cons_succ]
  refine wpAnyH_take (i := 42) (oi := { dst := some 105, op := Op.move (Operand.tmp 104), type := 4, pos := "law.go:167", after := #[{ on := 41, ground := Ground.data }, { on := 39, ground := Ground.chain }, { on := 39, ground := Ground.guard }], guard := some (39, false) }) (v := undef) rfl (by kernel_rfl) (by kernel_rfl) (by kernel_rfl) (fun _ _ _ h => h) (Or.inr ⟨by rfl, rfl⟩) (by assumption) ?_
  try simp only [Act.put, List.setIfInBounds_toArray, List.set_cons_zero, List.set_cons_succ]
  refine wpAnyH_take (i := 43) (oi := { dst := some 106, op := Op.load 29 (Operand.tmp 12), type := 29, pos := "law.go:167", after := #[{ on := 42, ground := Ground.guard }], guard := some (42, true) }) (v := undef) rfl (by kernel_rfl) (by kernel_rfl) (by kernel_rfl) (fun _ _ _ h => h) (Or.inr ⟨by rfl, rfl⟩) (by assumption) ?_
  try simp only [Act.put, List.setIfInBounds_toArray, List.set_cons_zero, List.set_cons_succ]
  refine wpAnyH_take (i := 44) (oi := { dst := some 107, op := Op.load 29 (Operand.tmp 3), type := 29, pos := "law.go:167", after := #[{ on := 42, ground := Ground.guard }], guard := some (42, true) }) (v := undef) rfl (by kernel_rfl) (by kernel_rfl) (by kernel_rfl) (fun _ _ _ h => h) (Or.inr ⟨by rfl, rfl⟩) (by assumption) ?_
  try simp only [Act.put, List.setIfInBounds_toArray, List.set_cons_zero, List.set_cons_succ]
  refine wpAnyH_take (i := 45) (oi := { dst := some 108, op := Op.binOp BinOp.eql 29 (Operand.tmp 106) (Operand.tmp 107) 29, type := 4, pos := "law.go:167", after := #[{ on := 43, ground := Ground.data }, { on := 44, ground := Ground.data }, { on := 42, ground := Ground.guard }], guard := some (42, true) }) (v := undef) rfl (by kernel_rfl) (by kernel_rfl) (by kernel_rfl) (fun _ _ _ h => h) (Or.inr ⟨by rfl, rfl⟩) (by assumption) ?_
  try simp only [Act.put, List.setIfInBounds_toArray, List.set_cons_zero, List.set_cons_succ]
  refine wpAnyH_take (i := 46) (oi := { dst := some 109, op := Op.pick (Operand.tmp 105) (Operand.tmp 108) (Operand.const (Value.bool false)), type := 4, pos := "law.go:167", after := #[{ on := 42, ground := Ground.data }, { on := 45, ground := Ground.data }, { on := 39, ground := Ground.guard }], guard := some (39, false) }) (v := undef) rfl (by kernel_rfl) (by kernel_rfl) (by kernel_rfl) (fun _ _ _ h => h) (Or.inr ⟨by rfl, rfl⟩) (by assumption) ?_
  try simp only [Act.put, List.setIfInBounds_toArray, List.set_cons_zero, List.set_cons_succ]
  refine wpAnyH_take (i := 47) (oi := { dst := some 110, op := Op.pick (Operand.tmp 102) (Operand.const (Value.bool true)) (Operand.tmp 109), type := 4, pos := "law.go:167", after := #[{ on := 39, ground := Ground.data }, { on := 46, ground := Ground.data }, { on := 29, ground := Ground.guard }], guard := some (29, true) }) (v := ?_) rfl (by kernel_rfl) (by kernel_rfl) (by kernel_rfl) (fun _ _ _ h => h) (Or.inl ⟨by rfl, ?_⟩) (by assumption) ?_
  rotate_left
  · (intro w_ hS_; (try dsimp only at hS_); go_simp; try with_reducible rfl)
  try simp only [Act.put, List.setIfInBounds_toArray, List.set_cons_zero, List.set_cons_succ]
  refine wpAnyH_take (i := 48) (oi := { dst := some 111, op := Op.pick (Operand.tmp 92) (Operand.tmp 110) (Operand.const (Value.bool false)), type := 4, pos := "law.go:167", after := #[{ on := 29, ground := Ground.data }, { on := 47, ground := Ground.data }], guard := none }) (v := ?_) rfl (by kernel_rfl) (by kernel_rfl) (by kernel_rfl) (fun _ _ _ h => h) (Or.inl ⟨by rfl, ?_⟩) (by assumption) ?_
  rotate_left
  · (intro w_ hS_; (try dsimp only at hS_); go_simp; try with_reducible rfl)
  try simp only [Act.put, List.setIfInBounds_toArray, List.set_cons_zero, List.set_cons_succ]
  refine wpAnyH_take (i := 49) (oi := { dst := some 6, op := Op.assign (Operand.tmp 111), type := 4, pos := "law.go:167", after := #[{ on := 48, ground := Ground.data }, { on := 42, ground := Ground.chain }, { on := 0, ground := Ground.phase }, { on := 1, ground := Ground.phase }, { on := 2, ground := Ground.phase }, { on := 3, ground := Ground.phase }, { on := 4, ground := Ground.phase }, { on := 5, ground := Ground.phase }, { on := 6, ground := Ground.phase }, { on := 7, ground := Ground.phase }, { on := 8, ground := Ground.phase }, { on := 9, ground := Ground.phase }, { on := 10, ground := Ground.phase }, { on := 11, ground := Ground.phase }, { on := 12, ground := Ground.phase }, { on := 13, ground := Ground.phase }, { on := 14, ground := Ground.phase }, { on := 15, ground := Ground.phase }, { on := 16, ground := Ground.phase }, { on := 17, ground := Ground.phase }, { on := 18, ground := Ground.phase }, { on := 19, ground := Ground.phase }, { on := 20, ground := Ground.phase }, { on := 21, ground := Ground.phase }, { on := 22, ground := Ground.phase }, { on := 23, ground := Ground.phase }, { on := 24, ground := Ground.phase }, { on := 25, ground := Ground.phase }, { on := 26, ground := Ground.phase }, { on := 27, ground := Ground.phase }, { on := 28, ground := Ground.phase }, { on := 29, ground := Ground.phase }, { on := 30, ground := Ground.phase }, { on := 31, ground := Ground.phase }, { on := 32, ground := Ground.phase }, { on := 33, ground := Ground.phase }, { on := 34, ground := Ground.phase }, { on := 35, ground := Ground.phase }, { on := 36, ground := Ground.phase }, { on := 37, ground := Ground.phase }, { on := 38, ground := Ground.phase }, { on := 39, ground := Ground.phase }, { on := 40, ground := Ground.phase }, { on := 41, ground := Ground.phase }, { on := 42, ground := Ground.phase }, { on := 43, ground := Ground.phase }, { on := 44, ground := Ground.phase }, { on := 45, ground := Ground.phase }, { on := 46, ground := Ground.phase }, { on := 47, ground := Ground.phase }, { on := 48, ground := Ground.phase }], guard := none }) (v := ?_) rfl (by kernel_rfl) (by kernel_rfl) (by kernel_rfl) (fun _ _ _ h => h) (Or.inl ⟨by rfl, ?_⟩) (by assumption) ?_
  rotate_left
  · (intro w_ hS_; (try dsimp only at hS_); go_simp; try with_reducible rfl)
  try simp only [Act.put, List.setIfInBounds_toArray, List.set_cons_zero, List.set_cons_succ]
  refine wpAnyH_done (by kernel_rfl) ?_ _
  (try dsimp only at hHeld)
  go_split_ands
  go_wp2
  go_ret
  exact ⟨rfl, by assumption⟩
end Go.Proofs.Ytpjenhojldcmiaa
