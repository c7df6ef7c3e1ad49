/- The law VcpuReal, walked. -/
import Derived.Test.YtkbaghblchlcnaaB20
namespace Go.Proofs.Ytkbaghblchlcnaa.Lr
open Go.RowKit Go.Shelf Go.Proofs.YtkbaghblchlcnaaW.PrintWords Go.Proofs.Ytkbaghblchlcnaa.IAll
attribute [local go_sem] Oper.semAt_some cell_row frozen_row isRow_setCell_eq rowAt_setCell_same rowAt_setCell_other isRow_alloc_eq rowAt_alloc rowAt_new rowAt_new' isRow_setRow_eq rowAt_setRow_same rowAt_setRow_other isRow_drew rowAt_drew size_setRow_ Lb_size Lb_at blk_ptr aggOf_agg below_alloc_e below_setCell_e below_setRow_e below_refl_e below_drew_r aside2_alloc_e aside2_setCell_e aside2_setRow_e aside2_drew_e aside2_refl_e aside2_drewN_e isRow_drewN rowAt_drewN below_drewN_e le_add_r offv_ptr one_lad zero_lad allOne_nil allOne_cons Value.oneCell' addr_at FA_size one_FA FA_size
attribute [local go_sem ↓] storeI storeC
attribute [local go_sem] eq2i eq2b eq2u
set_option maxRecDepth 100000 in
set_option maxHeartbeats 4000000 in
theorem real_law (c : Int) (c0 : 0 ≤ c) (m' p0' p1' : Int) (o0' o1' sp' : Bool) (a' b' : Int) (ha : 0 ≤ a') (ha2 : a' ≤ 4294967295) (hb : 0 ≤ b') (hb2 : b' ≤ 4294967295) (w : World) (B : Option Addr) (cB : Nat) (sc : List VA) (hS : ScOk w B sc) (gp id : Int) :
    Calls Try.prog 9 #[.int .u8 c, .agg #[.int .i64 m', .int .i64 p0', .int .i64 p1', .bool o0', .bool o1', .bool sp', .int .u32 a', .int .u32 b'], .slice B sc.length cB, .int .i64 gp, .int .i64 id] w fun e w' => e = .returned (.bool true) ∧ Below w.heap.size w w' := by
  obtain ⟨n, hn, h1, h2⟩ : ∃ n : Nat, 1 + c % 16 = (n : Int) ∧ 1 ≤ n ∧ n ≤ 16 := ⟨(1 + c % 16).toNat, by omega, by omega, by omega⟩
  have hO := (runA_ok n ⟨m', p0', p1', o0', o1', sp', a', b', List.replicate n z54, 0⟩ sc ⟨List.length_replicate, h2, by omega, rep_st n, Int.le_refl 0, by show (0 : Int) ≤ 4611686018427387904; omega⟩ rfl hS.len) sc.length (Nat.le_refl _)
  have HP := Lib.hid (fun (W : World) (h : ScOk W B sc) => played_c n h1 h2 c hn c0 m' p0' p1' o0' o1' sp' a' b' ha ha2 hb hb2 W B cB sc h)
  have HS := Lib.hid hS
  clear hS
  generalize runA n ⟨m', p0', p1', o0', o1', sp', a', b', List.replicate n z54, 0⟩ sc sc.length = s at *
  obtain ⟨⟨hlen, h16, h0, hst, hlo, hhi⟩, -⟩ := hO
  obtain ⟨m, p0, p1, o0, o1, sp, a, b, ys, lost⟩ := s
  simp only at hlen hst hlo hhi
  subst hlen
  go_enter Try.func9, Try.ntmps9
  have hB_0 : Below w.heap.size w w := Below.refl _ _
  go_wp2_with fail
  refine (awake_c _).mono ?_
  rintro e v1 ⟨rfl, hb1⟩
  obtain ⟨F_1, F_1'⟩ : Row v1 w.heap.size #[.int .i64 m', .int .i64 p0', .int .i64 p1', .bool o0', .bool o1', .bool sp', .int .u32 a', .int .u32 b'] := Row.step (by go_simp) (by go_simp) hb1
  have hB_1 : Below w.heap.size w v1 := bk (by go_simp) (by first | (go_simp; done) | (go_simp; omega) | exact Below.size (by assumption)) hb1
  clear hB_0 hb1
  have hz_1 : w.heap.size ≤ v1.heap.size := hB_1.size
  have hl_F_1 := isRow.lt F_1
  have ne_F_1_0 : ¬ w.heap.size = v1.heap.size := by omega
  have en_F_1_0 : ¬ v1.heap.size = w.heap.size := by omega
  have ne_F_1_1 : ¬ w.heap.size = v1.heap.size + 1 := by omega
  have en_F_1_1 : ¬ v1.heap.size + 1 = w.heap.size := by omega
  go_wp2_with fail
  refine (HP.out _ (HS.out.below hB_1)).mono ?_
  rintro e v0 ⟨gv, lv, rfl, hV0, hL0, n12, g1, g2, hb0⟩
  obtain ⟨V0, V0'⟩ : Row v0 gv #[.int .i64 m, .int .i64 p0, .int .i64 p1, .bool o0, .bool o1, .bool sp, .int .u32 a, .int .u32 b, .slice (some ⟨lv, 0, none⟩) ys.length ys.length, .int .i64 lost] := hV0
  obtain ⟨L0, L0'⟩ : Row v0 lv (FA ys) := hL0
  have hB0 : Below w.heap.size w v0 := bk hB_1 hB_1.size hb0
  have gw1 : w.heap.size ≤ gv := Nat.le_trans hB_1.size g1
  have gw2 : w.heap.size ≤ lv := Nat.le_trans hB_1.size g2
  have n21 : ¬ lv = gv := fun e => n12 e.symm
  clear hb0 F_1 F_1' hB_1 HP HS g1 g2 hn h1 h2
  have hE := eoi_c gv lv m p0 p1 o0 o1 sp a b ys h16 hst lost gp id hlo hhi n12
  have hD := dir_c gv lv m p0 p1 o0 o1 sp a b ys h16 hst lost id hlo hhi n12
  have HR := Lib.hid (fun W : World => real_r id W)
  unfold eoiGo eoiA eoiB dirGo at *
  cases hr : realC id with
  | true =>
    rw [hr] at HR
    clear hE hD
    go_wp2_with fail
    refine (HR.out _).mono ?_
    rintro e v1 ⟨rfl, hb1⟩
    obtain ⟨V_1, V_1'⟩ : Row v1 gv #[.int .i64 m, .int .i64 p0, .int .i64 p1, .bool o0, .bool o1, .bool sp, .int .u32 a, .int .u32 b, .slice (some ⟨lv, 0, none⟩) ys.length ys.length, .int .i64 lost] := Row.step (by go_simp) (by go_simp) hb1
    obtain ⟨L_1, L_1'⟩ : Row v1 lv (FA ys) := Row.step (by go_simp) (by go_simp) hb1
    have hB_1 : Below w.heap.size w v1 := bk (by go_simp) (by first | (go_simp; done) | (go_simp; omega) | exact Below.size (by assumption)) hb1
    clear V0 V0' L0 L0' hB0 hb1
    have hz_1 : w.heap.size ≤ v1.heap.size := hB_1.size
    have hl_V_1 := isRow.lt V_1
    have ne_V_1_0 : ¬ gv = v1.heap.size := by omega
    have en_V_1_0 : ¬ v1.heap.size = gv := by omega
    have ne_V_1_1 : ¬ gv = v1.heap.size + 1 := by omega
    have en_V_1_1 : ¬ v1.heap.size + 1 = gv := by omega
    have hl_L_1 := isRow.lt L_1
    have ne_L_1_0 : ¬ lv = v1.heap.size := by omega
    have en_L_1_0 : ¬ v1.heap.size = lv := by omega
    have ne_L_1_1 : ¬ lv = v1.heap.size + 1 := by omega
    have en_L_1_1 : ¬ v1.heap.size + 1 = lv := by omega
    go_wp2
    go_ret
    exact ⟨rfl, by go_simp⟩
  | false =>
    rw [hr] at HR hE hD
    simp only [Bool.false_and, Bool.false_eq_true, if_false, gOk, gM, gXs, gLost] at hE hD
    have HE := Lib.hid hE
    have HD := Lib.hid hD
    clear hE hD
    go_wp2_with fail
    refine (HR.out _).mono ?_
    rintro e v1 ⟨rfl, hb1⟩
    obtain ⟨V_1, V_1'⟩ : Row v1 gv #[.int .i64 m, .int .i64 p0, .int .i64 p1, .bool o0, .bool o1, .bool sp, .int .u32 a, .int .u32 b, .slice (some ⟨lv, 0, none⟩) ys.length ys.length, .int .i64 lost] := Row.step (by go_simp) (by go_simp) hb1
    obtain ⟨L_1, L_1'⟩ : Row v1 lv (FA ys) := Row.step (by go_simp) (by go_simp) hb1
    have hB_1 : Below w.heap.size w v1 := bk (by go_simp) (by first | (go_simp; done) | (go_simp; omega) | exact Below.size (by assumption)) hb1
    clear V0 V0' L0 L0' hB0 hb1
    have hz_1 : w.heap.size ≤ v1.heap.size := hB_1.size
    have hl_V_1 := isRow.lt V_1
    have ne_V_1_0 : ¬ gv = v1.heap.size := by omega
    have en_V_1_0 : ¬ v1.heap.size = gv := by omega
    have ne_V_1_1 : ¬ gv = v1.heap.size + 1 := by omega
    have en_V_1_1 : ¬ v1.heap.size + 1 = gv := by omega
    have hl_L_1 := isRow.lt L_1
    have ne_L_1_0 : ¬ lv = v1.heap.size := by omega
    have en_L_1_0 : ¬ v1.heap.size = lv := by omega
    have ne_L_1_1 : ¬ lv = v1.heap.size + 1 := by omega
    have en_L_1_1 : ¬ v1.heap.size + 1 = lv := by omega
    go_wp2_with (at_builtin; refine Kd.R_append_rows k54 (Rr := k54.K v1) (w0 := v1) v1.heap.size rfl _ _ 22 54 (.agg (enc z54)) 56 rfl Try.underlying22 infoL5 rfl (by decide) (by decide) _ ([] : List S54) ys (some ⟨lv, 0, none⟩) ys.length ys.length (fun _ => True) (fun _ => False) rfl rfl (Kd.R_nil _ _ _ _ _) (fa_kd L_1 L_1' (by omega)) (fun p cs hp => by rw [k54_open hp]; exact k54_mkM _ _ _ _) (fun _ h => h.elim) (fun _ _ => trivial) (Below.refl _ _) (by simp) (by simp; omega) ?_; intro x_ v2 hR_ hb2 _ _; refine stop_in ?_)
    refine stop_out ?_
    rw [List.nil_append] at hR_
    obtain ⟨ob, cO, csO, rfl, hcO, hob, ⟨O_2, O_2'⟩, hpO⟩ := copied hR_ h0
    clear hR_
    have ne_V_O : ¬ gv = ob := by have := isRow.lt V_1; omega
    have en_V_O : ¬ ob = gv := by omega
    have ne_L_O : ¬ lv = ob := by have := isRow.lt L_1; omega
    have en_L_O : ¬ ob = lv := by omega
    have hwob : w.heap.size ≤ ob := Nat.le_trans hB_1.size hob
    obtain ⟨V_2, V_2'⟩ : Row v2 gv #[.int .i64 m, .int .i64 p0, .int .i64 p1, .bool o0, .bool o1, .bool sp, .int .u32 a, .int .u32 b, .slice (some ⟨lv, 0, none⟩) ys.length ys.length, .int .i64 lost] := Row.step (by go_simp) (by go_simp) hb2
    obtain ⟨L_2, L_2'⟩ : Row v2 lv (FA ys) := Row.step (by go_simp) (by go_simp) hb2
    have hB_2 : Below w.heap.size w v2 := bk (by go_simp) (by first | (go_simp; done) | (go_simp; omega) | exact Below.size (by assumption)) hb2
    clear V_1 V_1' L_1 L_1' hB_1 hb2
    have hz_2 : w.heap.size ≤ v2.heap.size := hB_2.size
    have hl_V_2 := isRow.lt V_2
    have ne_V_2_0 : ¬ gv = v2.heap.size := by omega
    have en_V_2_0 : ¬ v2.heap.size = gv := by omega
    have ne_V_2_1 : ¬ gv = v2.heap.size + 1 := by omega
    have en_V_2_1 : ¬ v2.heap.size + 1 = gv := by omega
    have hl_L_2 := isRow.lt L_2
    have ne_L_2_0 : ¬ lv = v2.heap.size := by omega
    have en_L_2_0 : ¬ v2.heap.size = lv := by omega
    have ne_L_2_1 : ¬ lv = v2.heap.size + 1 := by omega
    have en_L_2_1 : ¬ v2.heap.size + 1 = lv := by omega
    have hl_O_2 := isRow.lt O_2
    have ne_O_2_0 : ¬ ob = v2.heap.size := by omega
    have en_O_2_0 : ¬ v2.heap.size = ob := by omega
    have ne_O_2_1 : ¬ ob = v2.heap.size + 1 := by omega
    have en_O_2_1 : ¬ v2.heap.size + 1 = ob := by omega
    go_wp2_with fail
    go_region
    have ne_V_F : ¬ gv = v2.heap.size := by omega
    have en_V_F : ¬ v2.heap.size = gv := by omega
    have ne_L_F : ¬ lv = v2.heap.size := by omega
    have en_L_F : ¬ v2.heap.size = lv := by omega
    have ne_O_F : ¬ ob = v2.heap.size := by omega
    have en_O_F : ¬ v2.heap.size = ob := by omega
    refine exit_named (fun W_ => (isRow W_ gv ∧ rowAt W_ gv = #[.int .i64 m, .int .i64 p0, .int .i64 p1, .bool o0, .bool o1, .bool sp, .int .u32 a, .int .u32 b, .slice (some ⟨lv, 0, none⟩) ys.length ys.length, .int .i64 lost]) ∧ (isRow W_ lv ∧ rowAt W_ lv = (FA ys)) ∧ (isRow W_ ob ∧ rowAt W_ ob = csO) ∧ (isRow W_ v2.heap.size ∧ rowAt W_ v2.heap.size = #[.int .i64 m, .int .i64 p0, .int .i64 p1, .bool o0, .bool o1, .bool sp, .int .u32 a, .int .u32 b]) ∧ Below w.heap.size w W_) (by refine ⟨⟨by go_simp, by go_simp⟩, ⟨by go_simp, by go_simp⟩, ⟨by go_simp, by go_simp⟩, ⟨by go_simp, by go_simp⟩, by go_simp⟩) ?_
    rintro v3 ⟨⟨V_3, V_3'⟩, ⟨L_3, L_3'⟩, ⟨O_3, O_3'⟩, ⟨F_3, F_3'⟩, hB_3⟩
    clear V_2 V_2' L_2 L_2' O_2 O_2' hB_2
    have hz_3 : w.heap.size ≤ v3.heap.size := hB_3.size
    have hl_V_3 := isRow.lt V_3
    have ne_V_3_0 : ¬ gv = v3.heap.size := by omega
    have en_V_3_0 : ¬ v3.heap.size = gv := by omega
    have ne_V_3_1 : ¬ gv = v3.heap.size + 1 := by omega
    have en_V_3_1 : ¬ v3.heap.size + 1 = gv := by omega
    have hl_L_3 := isRow.lt L_3
    have ne_L_3_0 : ¬ lv = v3.heap.size := by omega
    have en_L_3_0 : ¬ v3.heap.size = lv := by omega
    have ne_L_3_1 : ¬ lv = v3.heap.size + 1 := by omega
    have en_L_3_1 : ¬ v3.heap.size + 1 = lv := by omega
    have hl_O_3 := isRow.lt O_3
    have ne_O_3_0 : ¬ ob = v3.heap.size := by omega
    have en_O_3_0 : ¬ v3.heap.size = ob := by omega
    have ne_O_3_1 : ¬ ob = v3.heap.size + 1 := by omega
    have en_O_3_1 : ¬ v3.heap.size + 1 = ob := by omega
    have hl_F_3 := isRow.lt F_3
    have ne_F_3_0 : ¬ v2.heap.size = v3.heap.size := by omega
    have en_F_3_0 : ¬ v3.heap.size = v2.heap.size := by omega
    have ne_F_3_1 : ¬ v2.heap.size = v3.heap.size + 1 := by omega
    have en_F_3_1 : ¬ v3.heap.size + 1 = v2.heap.size := by omega
    go_wp2_with fail
    refine (HE.out _ (by go_simp) (by go_simp) (by go_simp) (by go_simp)).mono ?_
    rintro e v4 ⟨rfl, ⟨V_4, V_4'⟩, ⟨L_4, L_4'⟩, hA4⟩
    obtain ⟨O_4, O_4'⟩ : Row v4 ob csO := hA4.row ⟨by go_simp, by go_simp⟩ (by omega) (by omega)
    obtain ⟨F_4, F_4'⟩ : Row v4 v2.heap.size #[.int .i64 m, .int .i64 p0, .int .i64 p1, .bool o0, .bool o1, .bool sp, .int .u32 a, .int .u32 b] := hA4.row ⟨by go_simp, by go_simp⟩ (by omega) (by omega)
    have hB_4 : Below w.heap.size w v4 := hA4.below (by go_simp) (by first | omega | (go_simp; done) | (go_simp; omega)) (by first | omega | (go_simp; done) | (go_simp; omega)) (by first | (go_simp; done) | (go_simp; omega) | exact Below.size (by assumption))
    clear V_3 V_3' L_3 L_3' O_3 O_3' F_3 F_3' hB_3 hA4
    have hz_4 : w.heap.size ≤ v4.heap.size := hB_4.size
    have hl_V_4 := isRow.lt V_4
    have ne_V_4_0 : ¬ gv = v4.heap.size := by omega
    have en_V_4_0 : ¬ v4.heap.size = gv := by omega
    have ne_V_4_1 : ¬ gv = v4.heap.size + 1 := by omega
    have en_V_4_1 : ¬ v4.heap.size + 1 = gv := by omega
    have hl_L_4 := isRow.lt L_4
    have ne_L_4_0 : ¬ lv = v4.heap.size := by omega
    have en_L_4_0 : ¬ v4.heap.size = lv := by omega
    have ne_L_4_1 : ¬ lv = v4.heap.size + 1 := by omega
    have en_L_4_1 : ¬ v4.heap.size + 1 = lv := by omega
    have hl_O_4 := isRow.lt O_4
    have ne_O_4_0 : ¬ ob = v4.heap.size := by omega
    have en_O_4_0 : ¬ v4.heap.size = ob := by omega
    have ne_O_4_1 : ¬ ob = v4.heap.size + 1 := by omega
    have en_O_4_1 : ¬ v4.heap.size + 1 = ob := by omega
    have hl_F_4 := isRow.lt F_4
    have ne_F_4_0 : ¬ v2.heap.size = v4.heap.size := by omega
    have en_F_4_0 : ¬ v4.heap.size = v2.heap.size := by omega
    have ne_F_4_1 : ¬ v2.heap.size = v4.heap.size + 1 := by omega
    have en_F_4_1 : ¬ v4.heap.size + 1 = v2.heap.size := by omega
    go_wp2_with fail
    refine (HD.out _ (by go_simp) (by go_simp) (by go_simp) (by go_simp)).mono ?_
    rintro e v5 ⟨rfl, ⟨V_5, V_5'⟩, ⟨L_5, L_5'⟩, hA5⟩
    obtain ⟨O_5, O_5'⟩ : Row v5 ob csO := hA5.row ⟨by go_simp, by go_simp⟩ (by omega) (by omega)
    obtain ⟨F_5, F_5'⟩ : Row v5 v2.heap.size #[.int .i64 m, .int .i64 p0, .int .i64 p1, .bool o0, .bool o1, .bool sp, .int .u32 a, .int .u32 b] := hA5.row ⟨by go_simp, by go_simp⟩ (by omega) (by omega)
    have hB_5 : Below w.heap.size w v5 := hA5.below (by go_simp) (by first | omega | (go_simp; done) | (go_simp; omega)) (by first | omega | (go_simp; done) | (go_simp; omega)) (by first | (go_simp; done) | (go_simp; omega) | exact Below.size (by assumption))
    clear V_4 V_4' L_4 L_4' O_4 O_4' F_4 F_4' hB_4 hA5
    have hz_5 : w.heap.size ≤ v5.heap.size := hB_5.size
    have hl_V_5 := isRow.lt V_5
    have ne_V_5_0 : ¬ gv = v5.heap.size := by omega
    have en_V_5_0 : ¬ v5.heap.size = gv := by omega
    have ne_V_5_1 : ¬ gv = v5.heap.size + 1 := by omega
    have en_V_5_1 : ¬ v5.heap.size + 1 = gv := by omega
    have hl_L_5 := isRow.lt L_5
    have ne_L_5_0 : ¬ lv = v5.heap.size := by omega
    have en_L_5_0 : ¬ v5.heap.size = lv := by omega
    have ne_L_5_1 : ¬ lv = v5.heap.size + 1 := by omega
    have en_L_5_1 : ¬ v5.heap.size + 1 = lv := by omega
    have hl_O_5 := isRow.lt O_5
    have ne_O_5_0 : ¬ ob = v5.heap.size := by omega
    have en_O_5_0 : ¬ v5.heap.size = ob := by omega
    have ne_O_5_1 : ¬ ob = v5.heap.size + 1 := by omega
    have en_O_5_1 : ¬ v5.heap.size + 1 = ob := by omega
    have hl_F_5 := isRow.lt F_5
    have ne_F_5_0 : ¬ v2.heap.size = v5.heap.size := by omega
    have en_F_5_0 : ¬ v5.heap.size = v2.heap.size := by omega
    have ne_F_5_1 : ¬ v2.heap.size = v5.heap.size + 1 := by omega
    have en_F_5_1 : ¬ v5.heap.size + 1 = v2.heap.size := by omega
    go_wp2_with fail
    have ne_V_E1 : ¬ gv = v5.heap.size := by omega
    have en_V_E1 : ¬ v5.heap.size = gv := by omega
    have ne_L_E1 : ¬ lv = v5.heap.size := by omega
    have en_L_E1 : ¬ v5.heap.size = lv := by omega
    have ne_O_E1 : ¬ ob = v5.heap.size := by omega
    have en_O_E1 : ¬ v5.heap.size = ob := by omega
    have ne_F_E1 : ¬ v2.heap.size = v5.heap.size := by omega
    have en_F_E1 : ¬ v5.heap.size = v2.heap.size := by omega
    have ne_V_E2 : ¬ gv = v5.heap.size + 1 := by omega
    have en_V_E2 : ¬ v5.heap.size + 1 = gv := by omega
    have ne_L_E2 : ¬ lv = v5.heap.size + 1 := by omega
    have en_L_E2 : ¬ v5.heap.size + 1 = lv := by omega
    have ne_O_E2 : ¬ ob = v5.heap.size + 1 := by omega
    have en_O_E2 : ¬ v5.heap.size + 1 = ob := by omega
    have ne_F_E2 : ¬ v2.heap.size = v5.heap.size + 1 := by omega
    have en_F_E2 : ¬ v5.heap.size + 1 = v2.heap.size := by omega
    have ne_E1_E2 : ¬ v5.heap.size = v5.heap.size + 1 := by omega
    have en_E1_E2 : ¬ v5.heap.size + 1 = v5.heap.size := by omega
    refine wp_named (fun W_ => (isRow W_ gv ∧ rowAt W_ gv = #[.int .i64 m, .int .i64 p0, .int .i64 p1, .bool o0, .bool o1, .bool sp, .int .u32 a, .int .u32 b, .slice (some ⟨lv, 0, none⟩) ys.length ys.length, .int .i64 lost]) ∧ (isRow W_ lv ∧ rowAt W_ lv = (FA ys)) ∧ (isRow W_ ob ∧ rowAt W_ ob = csO) ∧ (isRow W_ v2.heap.size ∧ rowAt W_ v2.heap.size = #[.int .i64 m, .int .i64 p0, .int .i64 p1, .bool o0, .bool o1, .bool sp, .int .u32 a, .int .u32 b]) ∧ (isRow W_ v5.heap.size ∧ rowAt W_ v5.heap.size = #[.bool false, .int .i64 (-1)]) ∧ (isRow W_ (v5.heap.size + 1) ∧ rowAt W_ (v5.heap.size + 1) = #[.bool false, .int .i64 (-1)]) ∧ Below w.heap.size w W_) (by refine ⟨⟨by go_simp, by go_simp⟩, ⟨by go_simp, by go_simp⟩, ⟨by go_simp, by go_simp⟩, ⟨by go_simp, by go_simp⟩, ⟨by go_simp, by go_simp⟩, ⟨by go_simp, by go_simp⟩, by go_simp⟩) ?_
    rintro v6 ⟨⟨V_6, V_6'⟩, ⟨L_6, L_6'⟩, ⟨O_6, O_6'⟩, ⟨F_6, F_6'⟩, ⟨E1_6, E1_6'⟩, ⟨E2_6, E2_6'⟩, hB_6⟩
    clear V_5 V_5' L_5 L_5' O_5 O_5' F_5 F_5' hB_5
    have hz_6 : w.heap.size ≤ v6.heap.size := hB_6.size
    have hl_V_6 := isRow.lt V_6
    have ne_V_6_0 : ¬ gv = v6.heap.size := by omega
    have en_V_6_0 : ¬ v6.heap.size = gv := by omega
    have ne_V_6_1 : ¬ gv = v6.heap.size + 1 := by omega
    have en_V_6_1 : ¬ v6.heap.size + 1 = gv := by omega
    have hl_L_6 := isRow.lt L_6
    have ne_L_6_0 : ¬ lv = v6.heap.size := by omega
    have en_L_6_0 : ¬ v6.heap.size = lv := by omega
    have ne_L_6_1 : ¬ lv = v6.heap.size + 1 := by omega
    have en_L_6_1 : ¬ v6.heap.size + 1 = lv := by omega
    have hl_O_6 := isRow.lt O_6
    have ne_O_6_0 : ¬ ob = v6.heap.size := by omega
    have en_O_6_0 : ¬ v6.heap.size = ob := by omega
    have ne_O_6_1 : ¬ ob = v6.heap.size + 1 := by omega
    have en_O_6_1 : ¬ v6.heap.size + 1 = ob := by omega
    have hl_F_6 := isRow.lt F_6
    have ne_F_6_0 : ¬ v2.heap.size = v6.heap.size := by omega
    have en_F_6_0 : ¬ v6.heap.size = v2.heap.size := by omega
    have ne_F_6_1 : ¬ v2.heap.size = v6.heap.size + 1 := by omega
    have en_F_6_1 : ¬ v6.heap.size + 1 = v2.heap.size := by omega
    have hl_E1_6 := isRow.lt E1_6
    have ne_E1_6_0 : ¬ v5.heap.size = v6.heap.size := by omega
    have en_E1_6_0 : ¬ v6.heap.size = v5.heap.size := by omega
    have ne_E1_6_1 : ¬ v5.heap.size = v6.heap.size + 1 := by omega
    have en_E1_6_1 : ¬ v6.heap.size + 1 = v5.heap.size := by omega
    have hl_E2_6 := isRow.lt E2_6
    have ne_E2_6_0 : ¬ v5.heap.size + 1 = v6.heap.size := by omega
    have en_E2_6_0 : ¬ v6.heap.size = v5.heap.size + 1 := by omega
    have ne_E2_6_1 : ¬ v5.heap.size + 1 = v6.heap.size + 1 := by omega
    have en_E2_6_1 : ¬ v6.heap.size + 1 = v5.heap.size + 1 := by omega
    refine wp_region_held_drew (S := fun w' => isRow w' gv ∧ rowAt w' gv = #[.int .i64 m, .int .i64 p0, .int .i64 p1, .bool o0, .bool o1, .bool sp, .int .u32 a, .int .u32 b, .slice (some ⟨lv, 0, none⟩) ys.length ys.length, .int .i64 lost] ∧ isRow w' lv ∧ rowAt w' lv = (FA ys) ∧ isRow w' ob ∧ rowAt w' ob = csO ∧ isRow w' v2.heap.size ∧ rowAt w' v2.heap.size = #[.int .i64 m, .int .i64 p0, .int .i64 p1, .bool o0, .bool o1, .bool sp, .int .u32 a, .int .u32 b] ∧ isRow w' v5.heap.size ∧ rowAt w' v5.heap.size = #[.bool false, .int .i64 (-1)] ∧ isRow w' (v5.heap.size + 1) ∧ rowAt w' (v5.heap.size + 1) = #[.bool false, .int .i64 (-1)] ∧ Below w.heap.size w w') (by kernel_rfl) ⟨V_6, V_6', L_6, L_6', O_6, O_6', F_6, F_6', E1_6, E1_6', E2_6, E2_6', below_drew0 hB_6⟩ (fun hHeld => ?_)
    refine wpAnyH_take (i := 0) (oi := { dst := some 54, op := Op.load 57 (Operand.tmp 16), type := 57, pos := "law.go:325", after := #[], guard := none }) (v := ?_) rfl (by kernel_rfl) (by kernel_rfl) (by kernel_rfl) (fun _ _ _ h => h) (Or.inl ⟨by rfl, ?_⟩) (by assumption) ?_
    rotate_left
    · (intro w_ hS_; (try dsimp only at hS_); go_simp; try with_reducible rfl)
    try simp only [Act.put, List.setIfInBounds_toArray, List.set_cons_zero, List.set_cons_succ]
    refine wpAnyH_take (i := 1) (oi := { dst := some 55, op := Op.build 57 #[(1, Operand.const (Value.int IntKind.i64 (-1)))], type := 57, pos := "law.go:325", after := #[], guard := none }) (v := ?_) rfl (by kernel_rfl) (by kernel_rfl) (by kernel_rfl) (fun _ _ _ h => h) (Or.inl ⟨by rfl, ?_⟩) (by assumption) ?_
    rotate_left
    · (intro w_ hS_; (try dsimp only at hS_); go_simp; try with_reducible rfl)
    try simp only [Act.put, List.setIfInBounds_toArray, List.set_cons_zero, List.set_cons_succ]
    refine wpAnyH_take (i := 2) (oi := { dst := some 56, op := Op.binOp BinOp.eql 57 (Operand.tmp 54) (Operand.tmp 55) 57, type := 4, pos := "law.go:325", after := #[{ on := 0, ground := Ground.data }, { on := 1, ground := Ground.data }], guard := none }) (v := ?_) rfl (by kernel_rfl) (by kernel_rfl) (by kernel_rfl) (fun _ _ _ h => h) (Or.inl ⟨by rfl, ?_⟩) (by assumption) ?_
    rotate_left
    · (intro w_ hS_; (try dsimp only at hS_); go_simp; try with_reducible rfl)
    try simp only [Act.put, List.setIfInBounds_toArray, List.set_cons_zero, List.set_cons_succ]
    refine wpAnyH_take (i := 3) (oi := { dst := some 57, op := Op.move (Operand.tmp 56), type := 4, pos := "law.go:325", after := #[{ on := 2, ground := Ground.data }], guard := none }) (v := ?_) rfl (by kernel_rfl) (by kernel_rfl) (by kernel_rfl) (fun _ _ _ h => h) (Or.inl ⟨by rfl, ?_⟩) (by assumption) ?_
    rotate_left
    · (intro w_ hS_; (try dsimp only at hS_); go_simp; try with_reducible rfl)
    try simp only [Act.put, List.setIfInBounds_toArray, List.set_cons_zero, List.set_cons_succ]
    refine wpAnyH_take (i := 4) (oi := { dst := some 58, op := Op.load 57 (Operand.tmp 17), type := 57, pos := "law.go:325", after := #[{ on := 3, ground := Ground.guard }], guard := some (3, true) }) (v := ?_) rfl (by kernel_rfl) (by kernel_rfl) (by kernel_rfl) (fun _ _ _ h => h) (Or.inl ⟨by rfl, ?_⟩) (by assumption) ?_
    rotate_left
    · (intro w_ hS_; (try dsimp only at hS_); go_simp; try with_reducible rfl)
    try simp only [Act.put, List.setIfInBounds_toArray, List.set_cons_zero, List.set_cons_succ]
    refine wpAnyH_take (i := 5) (oi := { dst := some 59, op := Op.load 57 (Operand.tmp 16), type := 57, pos := "law.go:325", after := #[{ on := 3, ground := Ground.guard }], guard := some (3, true) }) (v := ?_) rfl (by kernel_rfl) (by kernel_rfl) (by kernel_rfl) (fun _ _ _ h => h) (Or.inl ⟨by rfl, ?_⟩) (by assumption) ?_
    rotate_left
    · (intro w_ hS_; (try dsimp only at hS_); go_simp; try with_reducible rfl)
    try simp only [Act.put, List.setIfInBounds_toArray, List.set_cons_zero, List.set_cons_succ]
    refine wpAnyH_take (i := 6) (oi := { dst := some 60, op := Op.binOp BinOp.eql 57 (Operand.tmp 58) (Operand.tmp 59) 57, type := 4, pos := "law.go:325", after := #[{ on := 4, ground := Ground.data }, { on := 5, ground := Ground.data }, { on := 3, ground := Ground.guard }], guard := some (3, true) }) (v := ?_) rfl (by kernel_rfl) (by kernel_rfl) (by kernel_rfl) (fun _ _ _ h => h) (Or.inl ⟨by rfl, ?_⟩) (by assumption) ?_
    rotate_left
    · (intro w_ hS_; (try dsimp only at hS_); go_simp; try with_reducible rfl)
    try simp only [Act.put, List.setIfInBounds_toArray, List.set_cons_zero, List.set_cons_succ]
    refine wpAnyH_take (i := 7) (oi := { dst := some 61, op := Op.pick (Operand.tmp 57) (Operand.tmp 60) (Operand.const (Value.bool false)), type := 4, pos := "law.go:325", after := #[{ on := 3, ground := Ground.data }, { on := 6, ground := Ground.data }], guard := none }) (v := ?_) rfl (by kernel_rfl) (by kernel_rfl) (by kernel_rfl) (fun _ _ _ h => h) (Or.inl ⟨by rfl, ?_⟩) (by assumption) ?_
    rotate_left
    · (intro w_ hS_; (try dsimp only at hS_); go_simp; try with_reducible rfl)
    try simp only [Act.put, List.setIfInBounds_toArray, List.set_cons_zero, List.set_cons_succ]
    refine wpAnyH_take (i := 8) (oi := { dst := some 62, op := Op.move (Operand.tmp 61), type := 4, pos := "law.go:325", after := #[{ on := 7, ground := Ground.data }, { on := 3, ground := Ground.chain }], guard := none }) (v := ?_) rfl (by kernel_rfl) (by kernel_rfl) (by kernel_rfl) (fun _ _ _ h => h) (Or.inl ⟨by rfl, ?_⟩) (by assumption) ?_
    rotate_left
    · (intro w_ hS_; (try dsimp only at hS_); go_simp; try with_reducible rfl)
    try simp only [Act.put, List.setIfInBounds_toArray, List.set_cons_zero, List.set_cons_succ]
    refine wpAnyH_take (i := 9) (oi := { dst := some 63, op := Op.move (Operand.tmp 12), type := 24, pos := "law.go:325", after := #[{ on := 8, ground := Ground.guard }], guard := some (8, true) }) (v := ?_) rfl (by kernel_rfl) (by kernel_rfl) (by kernel_rfl) (fun _ _ _ h => h) (Or.inl ⟨by rfl, ?_⟩) (by assumption) ?_
    rotate_left
    · (intro w_ hS_; (try dsimp only at hS_); go_simp; try with_reducible rfl)
    try simp only [Act.put, List.setIfInBounds_toArray, List.set_cons_zero, List.set_cons_succ]
    refine wpAnyH_take (i := 10) (oi := { dst := some 64, op := Op.nilCheck (Operand.tmp 63), type := 0, pos := "law.go:325", after := #[{ on := 9, ground := Ground.data }, { on := 8, ground := Ground.guard }], guard := some (8, true) }) (v := ?_) rfl (by kernel_rfl) (by kernel_rfl) (by kernel_rfl) (fun _ _ _ h => h) (Or.inl ⟨by rfl, ?_⟩) (by assumption) ?_
    rotate_left
    · (intro w_ hS_; (try dsimp only at hS_); go_simp; try with_reducible rfl)
    try simp only [Act.put, List.setIfInBounds_toArray, List.set_cons_zero, List.set_cons_succ]
    refine wpAnyH_take (i := 11) (oi := { dst := some 65, op := Op.fieldAddr 37 (Operand.tmp 64) 0, type := 0, pos := "law.go:325", after := #[{ on := 10, ground := Ground.data }, { on := 8, ground := Ground.guard }], guard := some (8, true) }) (v := ?_) rfl (by kernel_rfl) (by kernel_rfl) (by kernel_rfl) (fun _ _ _ h => h) (Or.inl ⟨by rfl, ?_⟩) (by assumption) ?_
    rotate_left
    · (intro w_ hS_; (try dsimp only at hS_); go_simp; try with_reducible rfl)
    try simp only [Act.put, List.setIfInBounds_toArray, List.set_cons_zero, List.set_cons_succ]
    refine wpAnyH_take (i := 12) (oi := { dst := some 66, op := Op.load 35 (Operand.tmp 65), type := 35, pos := "law.go:325", after := #[{ on := 11, ground := Ground.data }, { on := 8, ground := Ground.guard }], guard := some (8, true) }) (v := ?_) rfl (by kernel_rfl) (by kernel_rfl) (by kernel_rfl) (fun _ _ _ h => h) (Or.inl ⟨by rfl, ?_⟩) (by assumption) ?_
    rotate_left
    · (intro w_ hS_; (try dsimp only at hS_); go_simp; try with_reducible rfl)
    try simp only [Act.put, List.setIfInBounds_toArray, List.set_cons_zero, List.set_cons_succ]
    refine wpAnyH_take (i := 13) (oi := { dst := some 67, op := Op.load 35 (Operand.tmp 14), type := 35, pos := "law.go:325", after := #[{ on := 8, ground := Ground.guard }], guard := some (8, true) }) (v := ?_) rfl (by kernel_rfl) (by kernel_rfl) (by kernel_rfl) (fun _ _ _ h => h) (Or.inl ⟨by rfl, ?_⟩) (by assumption) ?_
    rotate_left
    · (intro w_ hS_; (try dsimp only at hS_); go_simp; try with_reducible rfl)
    try simp only [Act.put, List.setIfInBounds_toArray, List.set_cons_zero, List.set_cons_succ]
    refine wpAnyH_take (i := 14) (oi := { dst := some 68, op := Op.binOp BinOp.eql 35 (Operand.tmp 66) (Operand.tmp 67) 35, type := 4, pos := "law.go:325", after := #[{ on := 12, ground := Ground.data }, { on := 13, ground := Ground.data }, { on := 8, ground := Ground.guard }], guard := some (8, true) }) (v := ?_) rfl (by kernel_rfl) (by kernel_rfl) (by kernel_rfl) (fun _ _ _ h => h) (Or.inl ⟨by rfl, ?_⟩) (by assumption) ?_
    rotate_left
    · (intro w_ hS_; (try dsimp only at hS_); go_simp; try with_reducible rfl)
    try simp only [Act.put, List.setIfInBounds_toArray, List.set_cons_zero, List.set_cons_succ]
    refine wpAnyH_take (i := 15) (oi := { dst := some 69, op := Op.pick (Operand.tmp 62) (Operand.tmp 68) (Operand.const (Value.bool false)), type := 4, pos := "law.go:325", after := #[{ on := 8, ground := Ground.data }, { on := 14, ground := Ground.data }], guard := none }) (v := ?_) rfl (by kernel_rfl) (by kernel_rfl) (by kernel_rfl) (fun _ _ _ h => h) (Or.inl ⟨by rfl, ?_⟩) (by assumption) ?_
    rotate_left
    · (intro w_ hS_; (try dsimp only at hS_); go_simp; try with_reducible rfl)
    try simp only [Act.put, List.setIfInBounds_toArray, List.set_cons_zero, List.set_cons_succ]
    refine wpAnyH_take (i := 16) (oi := { dst := some 70, op := Op.move (Operand.tmp 69), type := 4, pos := "law.go:325", after := #[{ on := 15, ground := Ground.data }, { on := 8, ground := Ground.chain }], guard := none }) (v := ?_) rfl (by kernel_rfl) (by kernel_rfl) (by kernel_rfl) (fun _ _ _ h => h) (Or.inl ⟨by rfl, ?_⟩) (by assumption) ?_
    rotate_left
    · (intro w_ hS_; (try dsimp only at hS_); go_simp; try with_reducible rfl)
    try simp only [Act.put, List.setIfInBounds_toArray, List.set_cons_zero, List.set_cons_succ]
    refine wpAnyH_take (i := 17) (oi := { dst := some 71, op := Op.move (Operand.tmp 12), type := 24, pos := "law.go:325", after := #[{ on := 16, ground := Ground.guard }], guard := some (16, true) }) (v := ?_) rfl (by kernel_rfl) (by kernel_rfl) (by kernel_rfl) (fun _ _ _ h => h) (Or.inl ⟨by rfl, ?_⟩) (by assumption) ?_
    rotate_left
    · (intro w_ hS_; (try dsimp only at hS_); go_simp; try with_reducible rfl)
    try simp only [Act.put, List.setIfInBounds_toArray, List.set_cons_zero, List.set_cons_succ]
    refine wpAnyH_take (i := 18) (oi := { dst := some 72, op := Op.nilCheck (Operand.tmp 71), type := 0, pos := "law.go:325", after := #[{ on := 17, ground := Ground.data }, { on := 16, ground := Ground.guard }], guard := some (16, true) }) (v := ?_) rfl (by kernel_rfl) (by kernel_rfl) (by kernel_rfl) (fun _ _ _ h => h) (Or.inl ⟨by rfl, ?_⟩) (by assumption) ?_
    rotate_left
    · (intro w_ hS_; (try dsimp only at hS_); go_simp; try with_reducible rfl)
    try simp only [Act.put, List.setIfInBounds_toArray, List.set_cons_zero, List.set_cons_succ]
    refine wpAnyH_take (i := 19) (oi := { dst := some 73, op := Op.fieldAddr 37 (Operand.tmp 72) 2, type := 0, pos := "law.go:325", after := #[{ on := 18, ground := Ground.data }, { on := 16, ground := Ground.guard }], guard := some (16, true) }) (v := ?_) rfl (by kernel_rfl) (by kernel_rfl) (by kernel_rfl) (fun _ _ _ h => h) (Or.inl ⟨by rfl, ?_⟩) (by assumption) ?_
    rotate_left
    · (intro w_ hS_; (try dsimp only at hS_); go_simp; try with_reducible rfl)
    try simp only [Act.put, List.setIfInBounds_toArray, List.set_cons_zero, List.set_cons_succ]
    refine wpAnyH_take (i := 20) (oi := { dst := some 74, op := Op.load 3 (Operand.tmp 73), type := 3, pos := "law.go:325", after := #[{ on := 19, ground := Ground.data }, { on := 16, ground := Ground.guard }], guard := some (16, true) }) (v := ?_) rfl (by kernel_rfl) (by kernel_rfl) (by kernel_rfl) (fun _ _ _ h => h) (Or.inl ⟨by rfl, ?_⟩) (by assumption) ?_
    rotate_left
    · (intro w_ hS_; (try dsimp only at hS_); go_simp; try with_reducible rfl)
    try simp only [Act.put, List.setIfInBounds_toArray, List.set_cons_zero, List.set_cons_succ]
    refine wpAnyH_take (i := 21) (oi := { dst := some 75, op := Op.move (Operand.tmp 15), type := 3, pos := "law.go:325", after := #[{ on := 16, ground := Ground.guard }], guard := some (16, true) }) (v := ?_) rfl (by kernel_rfl) (by kernel_rfl) (by kernel_rfl) (fun _ _ _ h => h) (Or.inl ⟨by rfl, ?_⟩) (by assumption) ?_
    rotate_left
    · (intro w_ hS_; (try dsimp only at hS_); go_simp; try with_reducible rfl)
    try simp only [Act.put, List.setIfInBounds_toArray, List.set_cons_zero, List.set_cons_succ]
    refine wpAnyH_take (i := 22) (oi := { dst := some 76, op := Op.binOp BinOp.eql 3 (Operand.tmp 74) (Operand.tmp 75) 3, type := 4, pos := "law.go:325", after := #[{ on := 20, ground := Ground.data }, { on := 21, ground := Ground.data }, { on := 16, ground := Ground.guard }], guard := some (16, true) }) (v := ?_) rfl (by kernel_rfl) (by kernel_rfl) (by kernel_rfl) (fun _ _ _ h => h) (Or.inl ⟨by rfl, ?_⟩) (by assumption) ?_
    rotate_left
    · (intro w_ hS_; (try dsimp only at hS_); go_simp; try with_reducible rfl)
    try simp only [Act.put, List.setIfInBounds_toArray, List.set_cons_zero, List.set_cons_succ]
    refine wpAnyH_take (i := 23) (oi := { dst := some 77, op := Op.pick (Operand.tmp 70) (Operand.tmp 76) (Operand.const (Value.bool false)), type := 4, pos := "law.go:325", after := #[{ on := 16, ground := Ground.data }, { on := 22, ground := Ground.data }], guard := none }) (v := ?_) rfl (by kernel_rfl) (by kernel_rfl) (by kernel_rfl) (fun _ _ _ h => h) (Or.inl ⟨by rfl, ?_⟩) (by assumption) ?_
    rotate_left
    · (intro w_ hS_; (try dsimp only at hS_); go_simp; try with_reducible rfl)
    try simp only [Act.put, List.setIfInBounds_toArray, List.set_cons_zero, List.set_cons_succ]
    refine wpAnyH_take (i := 24) (oi := { dst := some 78, op := Op.move (Operand.tmp 77), type := 4, pos := "law.go:325", after := #[{ on := 23, ground := Ground.data }, { on := 16, ground := Ground.chain }], guard := none }) (v := ?_) rfl (by kernel_rfl) (by kernel_rfl) (by kernel_rfl) (fun _ _ _ h => h) (Or.inl ⟨by rfl, ?_⟩) (by assumption) ?_
    rotate_left
    · (intro w_ hS_; (try dsimp only at hS_); go_simp; try with_reducible rfl)
    try simp only [Act.put, List.setIfInBounds_toArray, List.set_cons_zero, List.set_cons_succ]
    refine wpAnyH_take (i := 25) (oi := { dst := some 79, op := Op.move (Operand.tmp 13), type := 22, pos := "law.go:325", after := #[{ on := 24, ground := Ground.guard }], guard := some (24, true) }) (v := ?_) rfl (by kernel_rfl) (by kernel_rfl) (by kernel_rfl) (fun _ _ _ h => h) (Or.inl ⟨by rfl, ?_⟩) (by assumption) ?_
    rotate_left
    · (intro w_ hS_; (try dsimp only at hS_); go_simp; try with_reducible rfl)
    try simp only [Act.put, List.setIfInBounds_toArray, List.set_cons_zero, List.set_cons_succ]
    refine wpAnyH_take (i := 26) (oi := { dst := some 80, op := Op.move (Operand.tmp 12), type := 24, pos := "law.go:325", after := #[{ on := 24, ground := Ground.guard }], guard := some (24, true) }) (v := ?_) rfl (by kernel_rfl) (by kernel_rfl) (by kernel_rfl) (fun _ _ _ h => h) (Or.inl ⟨by rfl, ?_⟩) (by assumption) ?_
    rotate_left
    · (intro w_ hS_; (try dsimp only at hS_); go_simp; try with_reducible rfl)
    try simp only [Act.put, List.setIfInBounds_toArray, List.set_cons_zero, List.set_cons_succ]
    refine wpAnyH_take (i := 27) (oi := { dst := some 81, op := Op.nilCheck (Operand.tmp 80), type := 0, pos := "law.go:325", after := #[{ on := 26, ground := Ground.data }, { on := 24, ground := Ground.guard }], guard := some (24, true) }) (v := ?_) rfl (by kernel_rfl) (by kernel_rfl) (by kernel_rfl) (fun _ _ _ h => h) (Or.inl ⟨by rfl, ?_⟩) (by assumption) ?_
    rotate_left
    · (intro w_ hS_; (try dsimp only at hS_); go_simp; try with_reducible rfl)
    try simp only [Act.put, List.setIfInBounds_toArray, List.set_cons_zero, List.set_cons_succ]
    refine wpAnyH_take (i := 28) (oi := { dst := some 82, op := Op.fieldAddr 37 (Operand.tmp 81) 1, type := 0, pos := "law.go:325", after := #[{ on := 27, ground := Ground.data }, { on := 24, ground := Ground.guard }], guard := some (24, true) }) (v := ?_) rfl (by kernel_rfl) (by kernel_rfl) (by kernel_rfl) (fun _ _ _ h => h) (Or.inl ⟨by rfl, ?_⟩) (by assumption) ?_
    rotate_left
    · (intro w_ hS_; (try dsimp only at hS_); go_simp; try with_reducible rfl)
    try simp only [Act.put, List.setIfInBounds_toArray, List.set_cons_zero, List.set_cons_succ]
    refine wpAnyH_take (i := 29) (oi := { dst := some 83, op := Op.load 22 (Operand.tmp 82), type := 22, pos := "law.go:325", after := #[{ on := 28, ground := Ground.data }, { on := 24, ground := Ground.guard }], guard := some (24, true) }) (v := ?_) rfl (by kernel_rfl) (by kernel_rfl) (by kernel_rfl) (fun _ _ _ h => h) (Or.inl ⟨by rfl, ?_⟩) (by assumption) ?_
    rotate_left
    · (intro w_ hS_; (try dsimp only at hS_); go_simp; try with_reducible rfl)
    try simp only [Act.put, List.setIfInBounds_toArray, List.set_cons_zero, List.set_cons_succ]
    refine wpAnyH_ready (rs := [30]) (by kernel_rfl) (by simp) ?_
    refine AllReadyH.cons (o := { dst := some 84, op := Op.call { callee := Callee.value (Operand.func 21), args := #[Operand.tmp 79, Operand.tmp 83], argTypes := #[22, 22] }, type := 4, pos := "law.go:325", after := #[{ on := 25, ground := Ground.data }, { on := 29, ground := Ground.data }, { on := 24, ground := Ground.chain }, { on := 24, ground := Ground.guard }], guard := some (24, true) }) rfl (fun K hK => ?_) AllReadyH.nil
    go_simp
    (have hq_ := hHeld; (try dsimp only at hq_); go_split_ands)
    refine (same_c h16 (by assumption) (by assumption) hpO hcO (by assumption) (by assumption) (Nat.le_refl _)).mono ?_
    rintro e w4 ⟨rfl, hb⟩
    refine hK.out _ _ ?_ (fun hHeld => ?_)
    · (go_split_ands; exact ⟨rk1 (by assumption) hb, rk2 (by assumption) (by assumption) hb, rk1 (by assumption) hb, rk2 (by assumption) (by assumption) hb, rk1 (by assumption) hb, rk2 (by assumption) (by assumption) hb, rk1 (by assumption) hb, rk2 (by assumption) (by assumption) hb, rk1 (by assumption) hb, rk2 (by assumption) (by assumption) hb, rk1 (by assumption) hb, rk2 (by assumption) (by assumption) hb, bk (by assumption) (Below.size (by assumption)) hb⟩)
    clear hK K
    try simp only [Act.put, List.setIfInBounds_toArray, List.set_cons_zero, List.set_cons_succ]
    refine wpAnyH_take (i := 31) (oi := { dst := some 85, op := Op.pick (Operand.tmp 78) (Operand.tmp 84) (Operand.const (Value.bool false)), type := 4, pos := "law.go:325", after := #[{ on := 24, ground := Ground.data }, { on := 30, ground := Ground.data }], guard := none }) (v := ?_) rfl (by kernel_rfl) (by kernel_rfl) (by kernel_rfl) (fun _ _ _ h => h) (Or.inl ⟨by rfl, ?_⟩) (by assumption) ?_
    rotate_left
    · (intro w_ hS_; (try dsimp only at hS_); go_simp; try with_reducible rfl)
    try simp only [Act.put, List.setIfInBounds_toArray, List.set_cons_zero, List.set_cons_succ]
    refine wpAnyH_take (i := 32) (oi := { dst := some 10, op := Op.assign (Operand.tmp 85), type := 4, pos := "law.go:325", after := #[{ on := 31, ground := Ground.data }, { on := 30, ground := Ground.chain }, { on := 0, ground := Ground.phase }, { on := 1, ground := Ground.phase }, { on := 2, ground := Ground.phase }, { on := 3, ground := Ground.phase }, { on := 4, ground := Ground.phase }, { on := 5, ground := Ground.phase }, { on := 6, ground := Ground.phase }, { on := 7, ground := Ground.phase }, { on := 8, ground := Ground.phase }, { on := 9, ground := Ground.phase }, { on := 10, ground := Ground.phase }, { on := 11, ground := Ground.phase }, { on := 12, ground := Ground.phase }, { on := 13, ground := Ground.phase }, { on := 14, ground := Ground.phase }, { on := 15, ground := Ground.phase }, { on := 16, ground := Ground.phase }, { on := 17, ground := Ground.phase }, { on := 18, ground := Ground.phase }, { on := 19, ground := Ground.phase }, { on := 20, ground := Ground.phase }, { on := 21, ground := Ground.phase }, { on := 22, ground := Ground.phase }, { on := 23, ground := Ground.phase }, { on := 24, ground := Ground.phase }, { on := 25, ground := Ground.phase }, { on := 26, ground := Ground.phase }, { on := 27, ground := Ground.phase }, { on := 28, ground := Ground.phase }, { on := 29, ground := Ground.phase }, { on := 30, ground := Ground.phase }, { on := 31, ground := Ground.phase }], guard := none }) (v := ?_) rfl (by kernel_rfl) (by kernel_rfl) (by kernel_rfl) (fun _ _ _ h => h) (Or.inl ⟨by rfl, ?_⟩) (by assumption) ?_
    rotate_left
    · (intro w_ hS_; (try dsimp only at hS_); go_simp; try with_reducible rfl)
    try simp only [Act.put, List.setIfInBounds_toArray, List.set_cons_zero, List.set_cons_succ]
    refine wpAnyH_done (by kernel_rfl) ?_ _
    (try dsimp only at hHeld)
    go_split_ands
    go_wp2
    go_ret
    exact ⟨rfl, by assumption⟩
end Go.Proofs.Ytkbaghblchlcnaa.Lr
