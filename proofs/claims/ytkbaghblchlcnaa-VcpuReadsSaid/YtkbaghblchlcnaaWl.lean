/- The law VcpuReads, walked: what takes and what ends. -/
import Derived.Test.YtkbaghblchlcnaaWk
namespace Go.Proofs.Ytkbaghblchlcnaa.Lr
open Go.RowKit Go.Shelf Go.Proofs.YtkbaghblchlcnaaW.PrintWords Go.Proofs.Ytkbaghblchlcnaa.IAll
attribute [local go_sem] Oper.semAt_some cell_row frozen_row isRow_setCell_eq rowAt_setCell_same rowAt_setCell_other isRow_alloc_eq rowAt_alloc rowAt_new rowAt_new' isRow_setRow_eq rowAt_setRow_same rowAt_setRow_other isRow_drew rowAt_drew size_setRow_ Lb_size Lb_at blk_ptr aggOf_agg below_alloc_e below_setCell_e below_setRow_e below_refl_e below_drew_r aside2_alloc_e aside2_setCell_e aside2_setRow_e aside2_drew_e aside2_refl_e aside2_drewN_e isRow_drewN rowAt_drewN below_drewN_e le_add_r offv_ptr one_lad zero_lad allOne_nil allOne_cons Value.oneCell' addr_at FA_size one_FA FA_size
attribute [local go_sem ↓] storeI storeC
attribute [local go_sem] eq2i eq2b eq2u
set_option maxRecDepth 100000 in
set_option maxHeartbeats 4000000 in
theorem reads_e1 (c : Int) (c0 : 0 ≤ c) (m' p0' p1' : Int) (o0' o1' sp' : Bool) (a' b' : Int) (ha : 0 ≤ a') (ha2 : a' ≤ 4294967295) (hb : 0 ≤ b') (hb2 : b' ≤ 4294967295) (w : World) (B : Option Addr) (cB : Nat) (sc : List VA) (hS : ScOk w B sc) (x : Int) :
    Calls Try.prog 8 #[.int .u8 c, .agg #[.int .i64 m', .int .i64 p0', .int .i64 p1', .bool o0', .bool o1', .bool sp', .int .u32 a', .int .u32 b'], .slice B sc.length cB, .int .i64 1, .bool false, .int .u64 x] w fun e w' => e = .returned (.bool true) ∧ Below w.heap.size w w' := by
  obtain ⟨n, hn, h1, h2⟩ : ∃ n : Nat, 1 + c % 16 = (n : Int) ∧ 1 ≤ n ∧ n ≤ 16 := ⟨(1 + c % 16).toNat, by omega, by omega, by omega⟩
  have hO := (runA_ok n ⟨m', p0', p1', o0', o1', sp', a', b', List.replicate n z54, 0⟩ sc ⟨List.length_replicate, h2, by omega, rep_st n, Int.le_refl 0, by show (0 : Int) ≤ 4611686018427387904; omega⟩ rfl hS.len) sc.length (Nat.le_refl _)
  have HP := Lib.hid (fun (W : World) (h : ScOk W B sc) => played_c n h1 h2 c hn c0 m' p0' p1' o0' o1' sp' a' b' ha ha2 hb hb2 W B cB sc h)
  have HS := Lib.hid hS
  clear hS
  generalize runA n ⟨m', p0', p1', o0', o1', sp', a', b', List.replicate n z54, 0⟩ sc sc.length = s at *
  obtain ⟨⟨hlen, h16, h0, hst, hlo, hhi⟩, -⟩ := hO
  obtain ⟨m, p0, p1, o0, o1, sp, a, b, ys, lost⟩ := s
  simp only at hlen hst hlo hhi
  subst hlen
  go_enter Try.func8, Try.ntmps8
  have hB_0 : Below w.heap.size w w := Below.refl _ _
  go_wp2_with fail
  refine (awake_c _).mono ?_
  rintro e v1 ⟨rfl, hb1⟩
  obtain ⟨F_1, F_1'⟩ : Row v1 w.heap.size #[.int .i64 m', .int .i64 p0', .int .i64 p1', .bool o0', .bool o1', .bool sp', .int .u32 a', .int .u32 b'] := Row.step (by go_simp) (by go_simp) hb1
  have hB_1 : Below w.heap.size w v1 := bk (by go_simp) (by first | (go_simp; done) | (go_simp; omega) | exact Below.size (by assumption)) hb1
  clear hB_0 hb1
  have hz_1 : w.heap.size ≤ v1.heap.size := hB_1.size
  have hl_F_1 := isRow.lt F_1
  have ne_F_1_0 : ¬ w.heap.size = v1.heap.size := by omega
  have en_F_1_0 : ¬ v1.heap.size = w.heap.size := by omega
  have ne_F_1_1 : ¬ w.heap.size = v1.heap.size + 1 := by omega
  have en_F_1_1 : ¬ v1.heap.size + 1 = w.heap.size := by omega
  go_wp2_with fail
  refine (HP.out _ (HS.out.below hB_1)).mono ?_
  rintro e v0 ⟨gv, lv, rfl, hV0, hL0, n12, g1, g2, hb0⟩
  obtain ⟨V0, V0'⟩ : Row v0 gv #[.int .i64 m, .int .i64 p0, .int .i64 p1, .bool o0, .bool o1, .bool sp, .int .u32 a, .int .u32 b, .slice (some ⟨lv, 0, none⟩) ys.length ys.length, .int .i64 lost] := hV0
  obtain ⟨L0, L0'⟩ : Row v0 lv (FA ys) := hL0
  have hB0 : Below w.heap.size w v0 := bk hB_1 hB_1.size hb0
  have gw1 : w.heap.size ≤ gv := Nat.le_trans hB_1.size g1
  have gw2 : w.heap.size ≤ lv := Nat.le_trans hB_1.size g2
  have n21 : ¬ lv = gv := fun e => n12 e.symm
  clear hb0 F_1 F_1' hB_1 HP HS g1 g2 hn h1 h2
  have hS : SOk ys.length ⟨m, p0, p1, o0, o1, sp, a, b, ys, lost⟩ := ⟨rfl, h16, h0, hst, hlo, hhi⟩
  obtain ⟨N2, ok2, M2, m2, p02, p12, o02, o12, sp2, a2, b2, ys2, lost2, hD⟩ : ∃ (N2 : Int) (ok2 : Bool) (M2 m2 p02 p12 : Int) (o02 o12 sp2 : Bool) (a2 b2 : Int) (ys2 : List S54) (lost2 : Int), ∀ W, isRow W gv → rowAt W gv = #[.int .i64 m, .int .i64 p0, .int .i64 p1, .bool o0, .bool o1, .bool sp, .int .u32 a, .int .u32 b, .slice (some ⟨lv, 0, none⟩) ys.length ys.length, .int .i64 lost] → isRow W lv → rowAt W lv = FA ys → Calls Try.prog 28 #[.pointer (some ⟨gv, 0, none⟩), .int .i64 1, .bool false, .int .u64 x] W fun e w' => e = .returned (.tuple #[.int .u64 N2, .agg #[.bool ok2, .int .i64 M2], .bool true]) ∧ Row w' gv #[.int .i64 m2, .int .i64 p02, .int .i64 p12, .bool o02, .bool o12, .bool sp2, .int .u32 a2, .int .u32 b2, .slice (some ⟨lv, 0, none⟩) ys.length ys.length, .int .i64 lost2] ∧ Row w' lv (FA ys2) ∧ Aside2 gv lv W w' := ⟨_, _, _, _, _, _, _, _, _, _, _, _, _, fun W q1 q2 q3 q4 => vdo_c ys.length gv lv ⟨m, p0, p1, o0, o1, sp, a, b, ys, lost⟩ hS n12 W q3 q4 q1 q2 1 false x⟩
  have HD := Lib.hid hD
  clear hD
  go_wp2_with (at_builtin; refine Kd.R_append_rows k54 (Rr := k54.K v0) (w0 := v0) v0.heap.size rfl _ _ 22 54 (.agg (enc z54)) 56 rfl Try.underlying22 infoL5 rfl (by decide) (by decide) _ ([] : List S54) ys (some ⟨lv, 0, none⟩) ys.length ys.length (fun _ => True) (fun _ => False) rfl rfl (Kd.R_nil _ _ _ _ _) (fa_kd L0 L0' (by omega)) (fun p cs hp => by rw [k54_open hp]; exact k54_mkM _ _ _ _) (fun _ h => h.elim) (fun _ _ => trivial) (Below.refl _ _) (by simp) (by simp; omega) ?_; intro x_ v1 hR_ hb1 _ _; refine stop_in ?_)
  refine stop_out ?_
  rw [List.nil_append] at hR_
  obtain ⟨ob, cO, csO, rfl, hcO, hob, ⟨O_1, O_1'⟩, hpO⟩ := copied hR_ h0
  clear hR_
  have ne_V_O : ¬ gv = ob := by have := isRow.lt V0; omega
  have en_V_O : ¬ ob = gv := by omega
  have ne_L_O : ¬ lv = ob := by have := isRow.lt L0; omega
  have en_L_O : ¬ ob = lv := by omega
  have hwob : w.heap.size ≤ ob := Nat.le_trans hB0.size hob
  obtain ⟨V_1, V_1'⟩ : Row v1 gv #[.int .i64 m, .int .i64 p0, .int .i64 p1, .bool o0, .bool o1, .bool sp, .int .u32 a, .int .u32 b, .slice (some ⟨lv, 0, none⟩) ys.length ys.length, .int .i64 lost] := Row.step (by go_simp) (by go_simp) hb1
  obtain ⟨L_1, L_1'⟩ : Row v1 lv (FA ys) := Row.step (by go_simp) (by go_simp) hb1
  have hB_1 : Below w.heap.size w v1 := bk (by go_simp) (by first | (go_simp; done) | (go_simp; omega) | exact Below.size (by assumption)) hb1
  clear V0 V0' L0 L0' hB0 hb1
  have hz_1 : w.heap.size ≤ v1.heap.size := hB_1.size
  have hl_V_1 := isRow.lt V_1
  have ne_V_1_0 : ¬ gv = v1.heap.size := by omega
  have en_V_1_0 : ¬ v1.heap.size = gv := by omega
  have ne_V_1_1 : ¬ gv = v1.heap.size + 1 := by omega
  have en_V_1_1 : ¬ v1.heap.size + 1 = gv := by omega
  have hl_L_1 := isRow.lt L_1
  have ne_L_1_0 : ¬ lv = v1.heap.size := by omega
  have en_L_1_0 : ¬ v1.heap.size = lv := by omega
  have ne_L_1_1 : ¬ lv = v1.heap.size + 1 := by omega
  have en_L_1_1 : ¬ v1.heap.size + 1 = lv := by omega
  have hl_O_1 := isRow.lt O_1
  have ne_O_1_0 : ¬ ob = v1.heap.size := by omega
  have en_O_1_0 : ¬ v1.heap.size = ob := by omega
  have ne_O_1_1 : ¬ ob = v1.heap.size + 1 := by omega
  have en_O_1_1 : ¬ v1.heap.size + 1 = ob := by omega
  go_wp2_with fail
  have ne_V_F : ¬ gv = v1.heap.size := by omega
  have en_V_F : ¬ v1.heap.size = gv := by omega
  have ne_L_F : ¬ lv = v1.heap.size := by omega
  have en_L_F : ¬ v1.heap.size = lv := by omega
  have ne_O_F : ¬ ob = v1.heap.size := by omega
  have en_O_F : ¬ v1.heap.size = ob := by omega
  refine (HD.out _ (by go_simp) (by go_simp) (by go_simp) (by go_simp)).mono ?_
  rintro e v2 ⟨rfl, ⟨V_2, V_2'⟩, ⟨L_2, L_2'⟩, hA2⟩
  obtain ⟨O_2, O_2'⟩ : Row v2 ob csO := hA2.row ⟨by go_simp, by go_simp⟩ (by omega) (by omega)
  obtain ⟨F_2, F_2'⟩ : Row v2 v1.heap.size #[.int .i64 m, .int .i64 p0, .int .i64 p1, .bool o0, .bool o1, .bool sp, .int .u32 a, .int .u32 b] := hA2.row ⟨by go_simp, by go_simp⟩ (by omega) (by omega)
  have hB_2 : Below w.heap.size w v2 := hA2.below (by go_simp) (by first | omega | (go_simp; done) | (go_simp; omega)) (by first | omega | (go_simp; done) | (go_simp; omega)) (by first | (go_simp; done) | (go_simp; omega) | exact Below.size (by assumption))
  clear V_1 V_1' L_1 L_1' O_1 O_1' hB_1 hA2
  have hz_2 : w.heap.size ≤ v2.heap.size := hB_2.size
  have hl_V_2 := isRow.lt V_2
  have ne_V_2_0 : ¬ gv = v2.heap.size := by omega
  have en_V_2_0 : ¬ v2.heap.size = gv := by omega
  have ne_V_2_1 : ¬ gv = v2.heap.size + 1 := by omega
  have en_V_2_1 : ¬ v2.heap.size + 1 = gv := by omega
  have hl_L_2 := isRow.lt L_2
  have ne_L_2_0 : ¬ lv = v2.heap.size := by omega
  have en_L_2_0 : ¬ v2.heap.size = lv := by omega
  have ne_L_2_1 : ¬ lv = v2.heap.size + 1 := by omega
  have en_L_2_1 : ¬ v2.heap.size + 1 = lv := by omega
  have hl_O_2 := isRow.lt O_2
  have ne_O_2_0 : ¬ ob = v2.heap.size := by omega
  have en_O_2_0 : ¬ v2.heap.size = ob := by omega
  have ne_O_2_1 : ¬ ob = v2.heap.size + 1 := by omega
  have en_O_2_1 : ¬ v2.heap.size + 1 = ob := by omega
  have hl_F_2 := isRow.lt F_2
  have ne_F_2_0 : ¬ v1.heap.size = v2.heap.size := by omega
  have en_F_2_0 : ¬ v2.heap.size = v1.heap.size := by omega
  have ne_F_2_1 : ¬ v1.heap.size = v2.heap.size + 1 := by omega
  have en_F_2_1 : ¬ v2.heap.size + 1 = v1.heap.size := by omega
  go_wp2
  go_ret
  exact ⟨rfl, by go_simp⟩
set_option maxRecDepth 100000 in
set_option maxHeartbeats 4000000 in
theorem reads_e2 (c : Int) (c0 : 0 ≤ c) (m' p0' p1' : Int) (o0' o1' sp' : Bool) (a' b' : Int) (ha : 0 ≤ a') (ha2 : a' ≤ 4294967295) (hb : 0 ≤ b') (hb2 : b' ≤ 4294967295) (w : World) (B : Option Addr) (cB : Nat) (sc : List VA) (hS : ScOk w B sc) (x : Int) :
    Calls Try.prog 8 #[.int .u8 c, .agg #[.int .i64 m', .int .i64 p0', .int .i64 p1', .bool o0', .bool o1', .bool sp', .int .u32 a', .int .u32 b'], .slice B sc.length cB, .int .i64 2, .bool false, .int .u64 x] w fun e w' => e = .returned (.bool true) ∧ Below w.heap.size w w' := by
  obtain ⟨n, hn, h1, h2⟩ : ∃ n : Nat, 1 + c % 16 = (n : Int) ∧ 1 ≤ n ∧ n ≤ 16 := ⟨(1 + c % 16).toNat, by omega, by omega, by omega⟩
  have hO := (runA_ok n ⟨m', p0', p1', o0', o1', sp', a', b', List.replicate n z54, 0⟩ sc ⟨List.length_replicate, h2, by omega, rep_st n, Int.le_refl 0, by show (0 : Int) ≤ 4611686018427387904; omega⟩ rfl hS.len) sc.length (Nat.le_refl _)
  have HP := Lib.hid (fun (W : World) (h : ScOk W B sc) => played_c n h1 h2 c hn c0 m' p0' p1' o0' o1' sp' a' b' ha ha2 hb hb2 W B cB sc h)
  have HS := Lib.hid hS
  clear hS
  generalize runA n ⟨m', p0', p1', o0', o1', sp', a', b', List.replicate n z54, 0⟩ sc sc.length = s at *
  obtain ⟨⟨hlen, h16, h0, hst, hlo, hhi⟩, -⟩ := hO
  obtain ⟨m, p0, p1, o0, o1, sp, a, b, ys, lost⟩ := s
  simp only at hlen hst hlo hhi
  subst hlen
  go_enter Try.func8, Try.ntmps8
  have hB_0 : Below w.heap.size w w := Below.refl _ _
  go_wp2_with fail
  refine (awake_c _).mono ?_
  rintro e v1 ⟨rfl, hb1⟩
  obtain ⟨F_1, F_1'⟩ : Row v1 w.heap.size #[.int .i64 m', .int .i64 p0', .int .i64 p1', .bool o0', .bool o1', .bool sp', .int .u32 a', .int .u32 b'] := Row.step (by go_simp) (by go_simp) hb1
  have hB_1 : Below w.heap.size w v1 := bk (by go_simp) (by first | (go_simp; done) | (go_simp; omega) | exact Below.size (by assumption)) hb1
  clear hB_0 hb1
  have hz_1 : w.heap.size ≤ v1.heap.size := hB_1.size
  have hl_F_1 := isRow.lt F_1
  have ne_F_1_0 : ¬ w.heap.size = v1.heap.size := by omega
  have en_F_1_0 : ¬ v1.heap.size = w.heap.size := by omega
  have ne_F_1_1 : ¬ w.heap.size = v1.heap.size + 1 := by omega
  have en_F_1_1 : ¬ v1.heap.size + 1 = w.heap.size := by omega
  go_wp2_with fail
  refine (HP.out _ (HS.out.below hB_1)).mono ?_
  rintro e v0 ⟨gv, lv, rfl, hV0, hL0, n12, g1, g2, hb0⟩
  obtain ⟨V0, V0'⟩ : Row v0 gv #[.int .i64 m, .int .i64 p0, .int .i64 p1, .bool o0, .bool o1, .bool sp, .int .u32 a, .int .u32 b, .slice (some ⟨lv, 0, none⟩) ys.length ys.length, .int .i64 lost] := hV0
  obtain ⟨L0, L0'⟩ : Row v0 lv (FA ys) := hL0
  have hB0 : Below w.heap.size w v0 := bk hB_1 hB_1.size hb0
  have gw1 : w.heap.size ≤ gv := Nat.le_trans hB_1.size g1
  have gw2 : w.heap.size ≤ lv := Nat.le_trans hB_1.size g2
  have n21 : ¬ lv = gv := fun e => n12 e.symm
  clear hb0 F_1 F_1' hB_1 HP HS g1 g2 hn h1 h2
  have hS : SOk ys.length ⟨m, p0, p1, o0, o1, sp, a, b, ys, lost⟩ := ⟨rfl, h16, h0, hst, hlo, hhi⟩
  obtain ⟨N2, ok2, M2, m2, p02, p12, o02, o12, sp2, a2, b2, ys2, lost2, hD⟩ : ∃ (N2 : Int) (ok2 : Bool) (M2 m2 p02 p12 : Int) (o02 o12 sp2 : Bool) (a2 b2 : Int) (ys2 : List S54) (lost2 : Int), ∀ W, isRow W gv → rowAt W gv = #[.int .i64 m, .int .i64 p0, .int .i64 p1, .bool o0, .bool o1, .bool sp, .int .u32 a, .int .u32 b, .slice (some ⟨lv, 0, none⟩) ys.length ys.length, .int .i64 lost] → isRow W lv → rowAt W lv = FA ys → Calls Try.prog 28 #[.pointer (some ⟨gv, 0, none⟩), .int .i64 2, .bool false, .int .u64 x] W fun e w' => e = .returned (.tuple #[.int .u64 N2, .agg #[.bool ok2, .int .i64 M2], .bool true]) ∧ Row w' gv #[.int .i64 m2, .int .i64 p02, .int .i64 p12, .bool o02, .bool o12, .bool sp2, .int .u32 a2, .int .u32 b2, .slice (some ⟨lv, 0, none⟩) ys.length ys.length, .int .i64 lost2] ∧ Row w' lv (FA ys2) ∧ Aside2 gv lv W w' := ⟨_, _, _, _, _, _, _, _, _, _, _, _, _, fun W q1 q2 q3 q4 => vdo_c ys.length gv lv ⟨m, p0, p1, o0, o1, sp, a, b, ys, lost⟩ hS n12 W q3 q4 q1 q2 2 false x⟩
  have HD := Lib.hid hD
  clear hD
  go_wp2_with (at_builtin; refine Kd.R_append_rows k54 (Rr := k54.K v0) (w0 := v0) v0.heap.size rfl _ _ 22 54 (.agg (enc z54)) 56 rfl Try.underlying22 infoL5 rfl (by decide) (by decide) _ ([] : List S54) ys (some ⟨lv, 0, none⟩) ys.length ys.length (fun _ => True) (fun _ => False) rfl rfl (Kd.R_nil _ _ _ _ _) (fa_kd L0 L0' (by omega)) (fun p cs hp => by rw [k54_open hp]; exact k54_mkM _ _ _ _) (fun _ h => h.elim) (fun _ _ => trivial) (Below.refl _ _) (by simp) (by simp; omega) ?_; intro x_ v1 hR_ hb1 _ _; refine stop_in ?_)
  refine stop_out ?_
  rw [List.nil_append] at hR_
  obtain ⟨ob, cO, csO, rfl, hcO, hob, ⟨O_1, O_1'⟩, hpO⟩ := copied hR_ h0
  clear hR_
  have ne_V_O : ¬ gv = ob := by have := isRow.lt V0; omega
  have en_V_O : ¬ ob = gv := by omega
  have ne_L_O : ¬ lv = ob := by have := isRow.lt L0; omega
  have en_L_O : ¬ ob = lv := by omega
  have hwob : w.heap.size ≤ ob := Nat.le_trans hB0.size hob
  obtain ⟨V_1, V_1'⟩ : Row v1 gv #[.int .i64 m, .int .i64 p0, .int .i64 p1, .bool o0, .bool o1, .bool sp, .int .u32 a, .int .u32 b, .slice (some ⟨lv, 0, none⟩) ys.length ys.length, .int .i64 lost] := Row.step (by go_simp) (by go_simp) hb1
  obtain ⟨L_1, L_1'⟩ : Row v1 lv (FA ys) := Row.step (by go_simp) (by go_simp) hb1
  have hB_1 : Below w.heap.size w v1 := bk (by go_simp) (by first | (go_simp; done) | (go_simp; omega) | exact Below.size (by assumption)) hb1
  clear V0 V0' L0 L0' hB0 hb1
  have hz_1 : w.heap.size ≤ v1.heap.size := hB_1.size
  have hl_V_1 := isRow.lt V_1
  have ne_V_1_0 : ¬ gv = v1.heap.size := by omega
  have en_V_1_0 : ¬ v1.heap.size = gv := by omega
  have ne_V_1_1 : ¬ gv = v1.heap.size + 1 := by omega
  have en_V_1_1 : ¬ v1.heap.size + 1 = gv := by omega
  have hl_L_1 := isRow.lt L_1
  have ne_L_1_0 : ¬ lv = v1.heap.size := by omega
  have en_L_1_0 : ¬ v1.heap.size = lv := by omega
  have ne_L_1_1 : ¬ lv = v1.heap.size + 1 := by omega
  have en_L_1_1 : ¬ v1.heap.size + 1 = lv := by omega
  have hl_O_1 := isRow.lt O_1
  have ne_O_1_0 : ¬ ob = v1.heap.size := by omega
  have en_O_1_0 : ¬ v1.heap.size = ob := by omega
  have ne_O_1_1 : ¬ ob = v1.heap.size + 1 := by omega
  have en_O_1_1 : ¬ v1.heap.size + 1 = ob := by omega
  go_wp2_with fail
  have ne_V_F : ¬ gv = v1.heap.size := by omega
  have en_V_F : ¬ v1.heap.size = gv := by omega
  have ne_L_F : ¬ lv = v1.heap.size := by omega
  have en_L_F : ¬ v1.heap.size = lv := by omega
  have ne_O_F : ¬ ob = v1.heap.size := by omega
  have en_O_F : ¬ v1.heap.size = ob := by omega
  refine (HD.out _ (by go_simp) (by go_simp) (by go_simp) (by go_simp)).mono ?_
  rintro e v2 ⟨rfl, ⟨V_2, V_2'⟩, ⟨L_2, L_2'⟩, hA2⟩
  obtain ⟨O_2, O_2'⟩ : Row v2 ob csO := hA2.row ⟨by go_simp, by go_simp⟩ (by omega) (by omega)
  obtain ⟨F_2, F_2'⟩ : Row v2 v1.heap.size #[.int .i64 m, .int .i64 p0, .int .i64 p1, .bool o0, .bool o1, .bool sp, .int .u32 a, .int .u32 b] := hA2.row ⟨by go_simp, by go_simp⟩ (by omega) (by omega)
  have hB_2 : Below w.heap.size w v2 := hA2.below (by go_simp) (by first | omega | (go_simp; done) | (go_simp; omega)) (by first | omega | (go_simp; done) | (go_simp; omega)) (by first | (go_simp; done) | (go_simp; omega) | exact Below.size (by assumption))
  clear V_1 V_1' L_1 L_1' O_1 O_1' hB_1 hA2
  have hz_2 : w.heap.size ≤ v2.heap.size := hB_2.size
  have hl_V_2 := isRow.lt V_2
  have ne_V_2_0 : ¬ gv = v2.heap.size := by omega
  have en_V_2_0 : ¬ v2.heap.size = gv := by omega
  have ne_V_2_1 : ¬ gv = v2.heap.size + 1 := by omega
  have en_V_2_1 : ¬ v2.heap.size + 1 = gv := by omega
  have hl_L_2 := isRow.lt L_2
  have ne_L_2_0 : ¬ lv = v2.heap.size := by omega
  have en_L_2_0 : ¬ v2.heap.size = lv := by omega
  have ne_L_2_1 : ¬ lv = v2.heap.size + 1 := by omega
  have en_L_2_1 : ¬ v2.heap.size + 1 = lv := by omega
  have hl_O_2 := isRow.lt O_2
  have ne_O_2_0 : ¬ ob = v2.heap.size := by omega
  have en_O_2_0 : ¬ v2.heap.size = ob := by omega
  have ne_O_2_1 : ¬ ob = v2.heap.size + 1 := by omega
  have en_O_2_1 : ¬ v2.heap.size + 1 = ob := by omega
  have hl_F_2 := isRow.lt F_2
  have ne_F_2_0 : ¬ v1.heap.size = v2.heap.size := by omega
  have en_F_2_0 : ¬ v2.heap.size = v1.heap.size := by omega
  have ne_F_2_1 : ¬ v1.heap.size = v2.heap.size + 1 := by omega
  have en_F_2_1 : ¬ v2.heap.size + 1 = v1.heap.size := by omega
  go_wp2
  go_ret
  exact ⟨rfl, by go_simp⟩
set_option maxRecDepth 100000 in
set_option maxHeartbeats 4000000 in
theorem reads_e3 (c : Int) (c0 : 0 ≤ c) (m' p0' p1' : Int) (o0' o1' sp' : Bool) (a' b' : Int) (ha : 0 ≤ a') (ha2 : a' ≤ 4294967295) (hb : 0 ≤ b') (hb2 : b' ≤ 4294967295) (w : World) (B : Option Addr) (cB : Nat) (sc : List VA) (hS : ScOk w B sc) (x : Int) :
    Calls Try.prog 8 #[.int .u8 c, .agg #[.int .i64 m', .int .i64 p0', .int .i64 p1', .bool o0', .bool o1', .bool sp', .int .u32 a', .int .u32 b'], .slice B sc.length cB, .int .i64 3, .bool true, .int .u64 x] w fun e w' => e = .returned (.bool true) ∧ Below w.heap.size w w' := by
  obtain ⟨n, hn, h1, h2⟩ : ∃ n : Nat, 1 + c % 16 = (n : Int) ∧ 1 ≤ n ∧ n ≤ 16 := ⟨(1 + c % 16).toNat, by omega, by omega, by omega⟩
  have hO := (runA_ok n ⟨m', p0', p1', o0', o1', sp', a', b', List.replicate n z54, 0⟩ sc ⟨List.length_replicate, h2, by omega, rep_st n, Int.le_refl 0, by show (0 : Int) ≤ 4611686018427387904; omega⟩ rfl hS.len) sc.length (Nat.le_refl _)
  have HP := Lib.hid (fun (W : World) (h : ScOk W B sc) => played_c n h1 h2 c hn c0 m' p0' p1' o0' o1' sp' a' b' ha ha2 hb hb2 W B cB sc h)
  have HS := Lib.hid hS
  clear hS
  generalize runA n ⟨m', p0', p1', o0', o1', sp', a', b', List.replicate n z54, 0⟩ sc sc.length = s at *
  obtain ⟨⟨hlen, h16, h0, hst, hlo, hhi⟩, -⟩ := hO
  obtain ⟨m, p0, p1, o0, o1, sp, a, b, ys, lost⟩ := s
  simp only at hlen hst hlo hhi
  subst hlen
  go_enter Try.func8, Try.ntmps8
  have hB_0 : Below w.heap.size w w := Below.refl _ _
  go_wp2_with fail
  refine (awake_c _).mono ?_
  rintro e v1 ⟨rfl, hb1⟩
  obtain ⟨F_1, F_1'⟩ : Row v1 w.heap.size #[.int .i64 m', .int .i64 p0', .int .i64 p1', .bool o0', .bool o1', .bool sp', .int .u32 a', .int .u32 b'] := Row.step (by go_simp) (by go_simp) hb1
  have hB_1 : Below w.heap.size w v1 := bk (by go_simp) (by first | (go_simp; done) | (go_simp; omega) | exact Below.size (by assumption)) hb1
  clear hB_0 hb1
  have hz_1 : w.heap.size ≤ v1.heap.size := hB_1.size
  have hl_F_1 := isRow.lt F_1
  have ne_F_1_0 : ¬ w.heap.size = v1.heap.size := by omega
  have en_F_1_0 : ¬ v1.heap.size = w.heap.size := by omega
  have ne_F_1_1 : ¬ w.heap.size = v1.heap.size + 1 := by omega
  have en_F_1_1 : ¬ v1.heap.size + 1 = w.heap.size := by omega
  go_wp2_with fail
  refine (HP.out _ (HS.out.below hB_1)).mono ?_
  rintro e v0 ⟨gv, lv, rfl, hV0, hL0, n12, g1, g2, hb0⟩
  obtain ⟨V0, V0'⟩ : Row v0 gv #[.int .i64 m, .int .i64 p0, .int .i64 p1, .bool o0, .bool o1, .bool sp, .int .u32 a, .int .u32 b, .slice (some ⟨lv, 0, none⟩) ys.length ys.length, .int .i64 lost] := hV0
  obtain ⟨L0, L0'⟩ : Row v0 lv (FA ys) := hL0
  have hB0 : Below w.heap.size w v0 := bk hB_1 hB_1.size hb0
  have gw1 : w.heap.size ≤ gv := Nat.le_trans hB_1.size g1
  have gw2 : w.heap.size ≤ lv := Nat.le_trans hB_1.size g2
  have n21 : ¬ lv = gv := fun e => n12 e.symm
  clear hb0 F_1 F_1' hB_1 HP HS g1 g2 hn h1 h2
  have hS : SOk ys.length ⟨m, p0, p1, o0, o1, sp, a, b, ys, lost⟩ := ⟨rfl, h16, h0, hst, hlo, hhi⟩
  obtain ⟨N2, ok2, M2, m2, p02, p12, o02, o12, sp2, a2, b2, ys2, lost2, hD⟩ : ∃ (N2 : Int) (ok2 : Bool) (M2 m2 p02 p12 : Int) (o02 o12 sp2 : Bool) (a2 b2 : Int) (ys2 : List S54) (lost2 : Int), ∀ W, isRow W gv → rowAt W gv = #[.int .i64 m, .int .i64 p0, .int .i64 p1, .bool o0, .bool o1, .bool sp, .int .u32 a, .int .u32 b, .slice (some ⟨lv, 0, none⟩) ys.length ys.length, .int .i64 lost] → isRow W lv → rowAt W lv = FA ys → Calls Try.prog 28 #[.pointer (some ⟨gv, 0, none⟩), .int .i64 3, .bool true, .int .u64 x] W fun e w' => e = .returned (.tuple #[.int .u64 N2, .agg #[.bool ok2, .int .i64 M2], .bool true]) ∧ Row w' gv #[.int .i64 m2, .int .i64 p02, .int .i64 p12, .bool o02, .bool o12, .bool sp2, .int .u32 a2, .int .u32 b2, .slice (some ⟨lv, 0, none⟩) ys.length ys.length, .int .i64 lost2] ∧ Row w' lv (FA ys2) ∧ Aside2 gv lv W w' := ⟨_, _, _, _, _, _, _, _, _, _, _, _, _, fun W q1 q2 q3 q4 => vdo_c ys.length gv lv ⟨m, p0, p1, o0, o1, sp, a, b, ys, lost⟩ hS n12 W q3 q4 q1 q2 3 true x⟩
  have HD := Lib.hid hD
  clear hD
  go_wp2_with (at_builtin; refine Kd.R_append_rows k54 (Rr := k54.K v0) (w0 := v0) v0.heap.size rfl _ _ 22 54 (.agg (enc z54)) 56 rfl Try.underlying22 infoL5 rfl (by decide) (by decide) _ ([] : List S54) ys (some ⟨lv, 0, none⟩) ys.length ys.length (fun _ => True) (fun _ => False) rfl rfl (Kd.R_nil _ _ _ _ _) (fa_kd L0 L0' (by omega)) (fun p cs hp => by rw [k54_open hp]; exact k54_mkM _ _ _ _) (fun _ h => h.elim) (fun _ _ => trivial) (Below.refl _ _) (by simp) (by simp; omega) ?_; intro x_ v1 hR_ hb1 _ _; refine stop_in ?_)
  refine stop_out ?_
  rw [List.nil_append] at hR_
  obtain ⟨ob, cO, csO, rfl, hcO, hob, ⟨O_1, O_1'⟩, hpO⟩ := copied hR_ h0
  clear hR_
  have ne_V_O : ¬ gv = ob := by have := isRow.lt V0; omega
  have en_V_O : ¬ ob = gv := by omega
  have ne_L_O : ¬ lv = ob := by have := isRow.lt L0; omega
  have en_L_O : ¬ ob = lv := by omega
  have hwob : w.heap.size ≤ ob := Nat.le_trans hB0.size hob
  obtain ⟨V_1, V_1'⟩ : Row v1 gv #[.int .i64 m, .int .i64 p0, .int .i64 p1, .bool o0, .bool o1, .bool sp, .int .u32 a, .int .u32 b, .slice (some ⟨lv, 0, none⟩) ys.length ys.length, .int .i64 lost] := Row.step (by go_simp) (by go_simp) hb1
  obtain ⟨L_1, L_1'⟩ : Row v1 lv (FA ys) := Row.step (by go_simp) (by go_simp) hb1
  have hB_1 : Below w.heap.size w v1 := bk (by go_simp) (by first | (go_simp; done) | (go_simp; omega) | exact Below.size (by assumption)) hb1
  clear V0 V0' L0 L0' hB0 hb1
  have hz_1 : w.heap.size ≤ v1.heap.size := hB_1.size
  have hl_V_1 := isRow.lt V_1
  have ne_V_1_0 : ¬ gv = v1.heap.size := by omega
  have en_V_1_0 : ¬ v1.heap.size = gv := by omega
  have ne_V_1_1 : ¬ gv = v1.heap.size + 1 := by omega
  have en_V_1_1 : ¬ v1.heap.size + 1 = gv := by omega
  have hl_L_1 := isRow.lt L_1
  have ne_L_1_0 : ¬ lv = v1.heap.size := by omega
  have en_L_1_0 : ¬ v1.heap.size = lv := by omega
  have ne_L_1_1 : ¬ lv = v1.heap.size + 1 := by omega
  have en_L_1_1 : ¬ v1.heap.size + 1 = lv := by omega
  have hl_O_1 := isRow.lt O_1
  have ne_O_1_0 : ¬ ob = v1.heap.size := by omega
  have en_O_1_0 : ¬ v1.heap.size = ob := by omega
  have ne_O_1_1 : ¬ ob = v1.heap.size + 1 := by omega
  have en_O_1_1 : ¬ v1.heap.size + 1 = ob := by omega
  go_wp2_with fail
  have ne_V_F : ¬ gv = v1.heap.size := by omega
  have en_V_F : ¬ v1.heap.size = gv := by omega
  have ne_L_F : ¬ lv = v1.heap.size := by omega
  have en_L_F : ¬ v1.heap.size = lv := by omega
  have ne_O_F : ¬ ob = v1.heap.size := by omega
  have en_O_F : ¬ v1.heap.size = ob := by omega
  refine (HD.out _ (by go_simp) (by go_simp) (by go_simp) (by go_simp)).mono ?_
  rintro e v2 ⟨rfl, ⟨V_2, V_2'⟩, ⟨L_2, L_2'⟩, hA2⟩
  obtain ⟨O_2, O_2'⟩ : Row v2 ob csO := hA2.row ⟨by go_simp, by go_simp⟩ (by omega) (by omega)
  obtain ⟨F_2, F_2'⟩ : Row v2 v1.heap.size #[.int .i64 m, .int .i64 p0, .int .i64 p1, .bool o0, .bool o1, .bool sp, .int .u32 a, .int .u32 b] := hA2.row ⟨by go_simp, by go_simp⟩ (by omega) (by omega)
  have hB_2 : Below w.heap.size w v2 := hA2.below (by go_simp) (by first | omega | (go_simp; done) | (go_simp; omega)) (by first | omega | (go_simp; done) | (go_simp; omega)) (by first | (go_simp; done) | (go_simp; omega) | exact Below.size (by assumption))
  clear V_1 V_1' L_1 L_1' O_1 O_1' hB_1 hA2
  have hz_2 : w.heap.size ≤ v2.heap.size := hB_2.size
  have hl_V_2 := isRow.lt V_2
  have ne_V_2_0 : ¬ gv = v2.heap.size := by omega
  have en_V_2_0 : ¬ v2.heap.size = gv := by omega
  have ne_V_2_1 : ¬ gv = v2.heap.size + 1 := by omega
  have en_V_2_1 : ¬ v2.heap.size + 1 = gv := by omega
  have hl_L_2 := isRow.lt L_2
  have ne_L_2_0 : ¬ lv = v2.heap.size := by omega
  have en_L_2_0 : ¬ v2.heap.size = lv := by omega
  have ne_L_2_1 : ¬ lv = v2.heap.size + 1 := by omega
  have en_L_2_1 : ¬ v2.heap.size + 1 = lv := by omega
  have hl_O_2 := isRow.lt O_2
  have ne_O_2_0 : ¬ ob = v2.heap.size := by omega
  have en_O_2_0 : ¬ v2.heap.size = ob := by omega
  have ne_O_2_1 : ¬ ob = v2.heap.size + 1 := by omega
  have en_O_2_1 : ¬ v2.heap.size + 1 = ob := by omega
  have hl_F_2 := isRow.lt F_2
  have ne_F_2_0 : ¬ v1.heap.size = v2.heap.size := by omega
  have en_F_2_0 : ¬ v2.heap.size = v1.heap.size := by omega
  have ne_F_2_1 : ¬ v1.heap.size = v2.heap.size + 1 := by omega
  have en_F_2_1 : ¬ v2.heap.size + 1 = v1.heap.size := by omega
  go_wp2
  go_ret
  exact ⟨rfl, by go_simp⟩
set_option maxRecDepth 100000 in
set_option maxHeartbeats 4000000 in
theorem reads_e4 (c : Int) (c0 : 0 ≤ c) (m' p0' p1' : Int) (o0' o1' sp' : Bool) (a' b' : Int) (ha : 0 ≤ a') (ha2 : a' ≤ 4294967295) (hb : 0 ≤ b') (hb2 : b' ≤ 4294967295) (w : World) (B : Option Addr) (cB : Nat) (sc : List VA) (hS : ScOk w B sc) (x : Int) :
    Calls Try.prog 8 #[.int .u8 c, .agg #[.int .i64 m', .int .i64 p0', .int .i64 p1', .bool o0', .bool o1', .bool sp', .int .u32 a', .int .u32 b'], .slice B sc.length cB, .int .i64 4, .bool true, .int .u64 x] w fun e w' => e = .returned (.bool true) ∧ Below w.heap.size w w' := by
  obtain ⟨n, hn, h1, h2⟩ : ∃ n : Nat, 1 + c % 16 = (n : Int) ∧ 1 ≤ n ∧ n ≤ 16 := ⟨(1 + c % 16).toNat, by omega, by omega, by omega⟩
  have hO := (runA_ok n ⟨m', p0', p1', o0', o1', sp', a', b', List.replicate n z54, 0⟩ sc ⟨List.length_replicate, h2, by omega, rep_st n, Int.le_refl 0, by show (0 : Int) ≤ 4611686018427387904; omega⟩ rfl hS.len) sc.length (Nat.le_refl _)
  have HP := Lib.hid (fun (W : World) (h : ScOk W B sc) => played_c n h1 h2 c hn c0 m' p0' p1' o0' o1' sp' a' b' ha ha2 hb hb2 W B cB sc h)
  have HS := Lib.hid hS
  clear hS
  generalize runA n ⟨m', p0', p1', o0', o1', sp', a', b', List.replicate n z54, 0⟩ sc sc.length = s at *
  obtain ⟨⟨hlen, h16, h0, hst, hlo, hhi⟩, -⟩ := hO
  obtain ⟨m, p0, p1, o0, o1, sp, a, b, ys, lost⟩ := s
  simp only at hlen hst hlo hhi
  subst hlen
  go_enter Try.func8, Try.ntmps8
  have hB_0 : Below w.heap.size w w := Below.refl _ _
  go_wp2_with fail
  refine (awake_c _).mono ?_
  rintro e v1 ⟨rfl, hb1⟩
  obtain ⟨F_1, F_1'⟩ : Row v1 w.heap.size #[.int .i64 m', .int .i64 p0', .int .i64 p1', .bool o0', .bool o1', .bool sp', .int .u32 a', .int .u32 b'] := Row.step (by go_simp) (by go_simp) hb1
  have hB_1 : Below w.heap.size w v1 := bk (by go_simp) (by first | (go_simp; done) | (go_simp; omega) | exact Below.size (by assumption)) hb1
  clear hB_0 hb1
  have hz_1 : w.heap.size ≤ v1.heap.size := hB_1.size
  have hl_F_1 := isRow.lt F_1
  have ne_F_1_0 : ¬ w.heap.size = v1.heap.size := by omega
  have en_F_1_0 : ¬ v1.heap.size = w.heap.size := by omega
  have ne_F_1_1 : ¬ w.heap.size = v1.heap.size + 1 := by omega
  have en_F_1_1 : ¬ v1.heap.size + 1 = w.heap.size := by omega
  go_wp2_with fail
  refine (HP.out _ (HS.out.below hB_1)).mono ?_
  rintro e v0 ⟨gv, lv, rfl, hV0, hL0, n12, g1, g2, hb0⟩
  obtain ⟨V0, V0'⟩ : Row v0 gv #[.int .i64 m, .int .i64 p0, .int .i64 p1, .bool o0, .bool o1, .bool sp, .int .u32 a, .int .u32 b, .slice (some ⟨lv, 0, none⟩) ys.length ys.length, .int .i64 lost] := hV0
  obtain ⟨L0, L0'⟩ : Row v0 lv (FA ys) := hL0
  have hB0 : Below w.heap.size w v0 := bk hB_1 hB_1.size hb0
  have gw1 : w.heap.size ≤ gv := Nat.le_trans hB_1.size g1
  have gw2 : w.heap.size ≤ lv := Nat.le_trans hB_1.size g2
  have n21 : ¬ lv = gv := fun e => n12 e.symm
  clear hb0 F_1 F_1' hB_1 HP HS g1 g2 hn h1 h2
  have hS : SOk ys.length ⟨m, p0, p1, o0, o1, sp, a, b, ys, lost⟩ := ⟨rfl, h16, h0, hst, hlo, hhi⟩
  obtain ⟨N2, ok2, M2, m2, p02, p12, o02, o12, sp2, a2, b2, ys2, lost2, hD⟩ : ∃ (N2 : Int) (ok2 : Bool) (M2 m2 p02 p12 : Int) (o02 o12 sp2 : Bool) (a2 b2 : Int) (ys2 : List S54) (lost2 : Int), ∀ W, isRow W gv → rowAt W gv = #[.int .i64 m, .int .i64 p0, .int .i64 p1, .bool o0, .bool o1, .bool sp, .int .u32 a, .int .u32 b, .slice (some ⟨lv, 0, none⟩) ys.length ys.length, .int .i64 lost] → isRow W lv → rowAt W lv = FA ys → Calls Try.prog 28 #[.pointer (some ⟨gv, 0, none⟩), .int .i64 4, .bool true, .int .u64 x] W fun e w' => e = .returned (.tuple #[.int .u64 N2, .agg #[.bool ok2, .int .i64 M2], .bool true]) ∧ Row w' gv #[.int .i64 m2, .int .i64 p02, .int .i64 p12, .bool o02, .bool o12, .bool sp2, .int .u32 a2, .int .u32 b2, .slice (some ⟨lv, 0, none⟩) ys.length ys.length, .int .i64 lost2] ∧ Row w' lv (FA ys2) ∧ Aside2 gv lv W w' := ⟨_, _, _, _, _, _, _, _, _, _, _, _, _, fun W q1 q2 q3 q4 => vdo_c ys.length gv lv ⟨m, p0, p1, o0, o1, sp, a, b, ys, lost⟩ hS n12 W q3 q4 q1 q2 4 true x⟩
  have HD := Lib.hid hD
  clear hD
  go_wp2_with (at_builtin; refine Kd.R_append_rows k54 (Rr := k54.K v0) (w0 := v0) v0.heap.size rfl _ _ 22 54 (.agg (enc z54)) 56 rfl Try.underlying22 infoL5 rfl (by decide) (by decide) _ ([] : List S54) ys (some ⟨lv, 0, none⟩) ys.length ys.length (fun _ => True) (fun _ => False) rfl rfl (Kd.R_nil _ _ _ _ _) (fa_kd L0 L0' (by omega)) (fun p cs hp => by rw [k54_open hp]; exact k54_mkM _ _ _ _) (fun _ h => h.elim) (fun _ _ => trivial) (Below.refl _ _) (by simp) (by simp; omega) ?_; intro x_ v1 hR_ hb1 _ _; refine stop_in ?_)
  refine stop_out ?_
  rw [List.nil_append] at hR_
  obtain ⟨ob, cO, csO, rfl, hcO, hob, ⟨O_1, O_1'⟩, hpO⟩ := copied hR_ h0
  clear hR_
  have ne_V_O : ¬ gv = ob := by have := isRow.lt V0; omega
  have en_V_O : ¬ ob = gv := by omega
  have ne_L_O : ¬ lv = ob := by have := isRow.lt L0; omega
  have en_L_O : ¬ ob = lv := by omega
  have hwob : w.heap.size ≤ ob := Nat.le_trans hB0.size hob
  obtain ⟨V_1, V_1'⟩ : Row v1 gv #[.int .i64 m, .int .i64 p0, .int .i64 p1, .bool o0, .bool o1, .bool sp, .int .u32 a, .int .u32 b, .slice (some ⟨lv, 0, none⟩) ys.length ys.length, .int .i64 lost] := Row.step (by go_simp) (by go_simp) hb1
  obtain ⟨L_1, L_1'⟩ : Row v1 lv (FA ys) := Row.step (by go_simp) (by go_simp) hb1
  have hB_1 : Below w.heap.size w v1 := bk (by go_simp) (by first | (go_simp; done) | (go_simp; omega) | exact Below.size (by assumption)) hb1
  clear V0 V0' L0 L0' hB0 hb1
  have hz_1 : w.heap.size ≤ v1.heap.size := hB_1.size
  have hl_V_1 := isRow.lt V_1
  have ne_V_1_0 : ¬ gv = v1.heap.size := by omega
  have en_V_1_0 : ¬ v1.heap.size = gv := by omega
  have ne_V_1_1 : ¬ gv = v1.heap.size + 1 := by omega
  have en_V_1_1 : ¬ v1.heap.size + 1 = gv := by omega
  have hl_L_1 := isRow.lt L_1
  have ne_L_1_0 : ¬ lv = v1.heap.size := by omega
  have en_L_1_0 : ¬ v1.heap.size = lv := by omega
  have ne_L_1_1 : ¬ lv = v1.heap.size + 1 := by omega
  have en_L_1_1 : ¬ v1.heap.size + 1 = lv := by omega
  have hl_O_1 := isRow.lt O_1
  have ne_O_1_0 : ¬ ob = v1.heap.size := by omega
  have en_O_1_0 : ¬ v1.heap.size = ob := by omega
  have ne_O_1_1 : ¬ ob = v1.heap.size + 1 := by omega
  have en_O_1_1 : ¬ v1.heap.size + 1 = ob := by omega
  go_wp2_with fail
  have ne_V_F : ¬ gv = v1.heap.size := by omega
  have en_V_F : ¬ v1.heap.size = gv := by omega
  have ne_L_F : ¬ lv = v1.heap.size := by omega
  have en_L_F : ¬ v1.heap.size = lv := by omega
  have ne_O_F : ¬ ob = v1.heap.size := by omega
  have en_O_F : ¬ v1.heap.size = ob := by omega
  refine (HD.out _ (by go_simp) (by go_simp) (by go_simp) (by go_simp)).mono ?_
  rintro e v2 ⟨rfl, ⟨V_2, V_2'⟩, ⟨L_2, L_2'⟩, hA2⟩
  obtain ⟨O_2, O_2'⟩ : Row v2 ob csO := hA2.row ⟨by go_simp, by go_simp⟩ (by omega) (by omega)
  obtain ⟨F_2, F_2'⟩ : Row v2 v1.heap.size #[.int .i64 m, .int .i64 p0, .int .i64 p1, .bool o0, .bool o1, .bool sp, .int .u32 a, .int .u32 b] := hA2.row ⟨by go_simp, by go_simp⟩ (by omega) (by omega)
  have hB_2 : Below w.heap.size w v2 := hA2.below (by go_simp) (by first | omega | (go_simp; done) | (go_simp; omega)) (by first | omega | (go_simp; done) | (go_simp; omega)) (by first | (go_simp; done) | (go_simp; omega) | exact Below.size (by assumption))
  clear V_1 V_1' L_1 L_1' O_1 O_1' hB_1 hA2
  have hz_2 : w.heap.size ≤ v2.heap.size := hB_2.size
  have hl_V_2 := isRow.lt V_2
  have ne_V_2_0 : ¬ gv = v2.heap.size := by omega
  have en_V_2_0 : ¬ v2.heap.size = gv := by omega
  have ne_V_2_1 : ¬ gv = v2.heap.size + 1 := by omega
  have en_V_2_1 : ¬ v2.heap.size + 1 = gv := by omega
  have hl_L_2 := isRow.lt L_2
  have ne_L_2_0 : ¬ lv = v2.heap.size := by omega
  have en_L_2_0 : ¬ v2.heap.size = lv := by omega
  have ne_L_2_1 : ¬ lv = v2.heap.size + 1 := by omega
  have en_L_2_1 : ¬ v2.heap.size + 1 = lv := by omega
  have hl_O_2 := isRow.lt O_2
  have ne_O_2_0 : ¬ ob = v2.heap.size := by omega
  have en_O_2_0 : ¬ v2.heap.size = ob := by omega
  have ne_O_2_1 : ¬ ob = v2.heap.size + 1 := by omega
  have en_O_2_1 : ¬ v2.heap.size + 1 = ob := by omega
  have hl_F_2 := isRow.lt F_2
  have ne_F_2_0 : ¬ v1.heap.size = v2.heap.size := by omega
  have en_F_2_0 : ¬ v2.heap.size = v1.heap.size := by omega
  have ne_F_2_1 : ¬ v1.heap.size = v2.heap.size + 1 := by omega
  have en_F_2_1 : ¬ v2.heap.size + 1 = v1.heap.size := by omega
  go_wp2
  go_ret
  exact ⟨rfl, by go_simp⟩
set_option maxRecDepth 100000 in
set_option maxHeartbeats 4000000 in
theorem reads_e5 (c : Int) (c0 : 0 ≤ c) (m' p0' p1' : Int) (o0' o1' sp' : Bool) (a' b' : Int) (ha : 0 ≤ a') (ha2 : a' ≤ 4294967295) (hb : 0 ≤ b') (hb2 : b' ≤ 4294967295) (w : World) (B : Option Addr) (cB : Nat) (sc : List VA) (hS : ScOk w B sc) (x : Int) :
    Calls Try.prog 8 #[.int .u8 c, .agg #[.int .i64 m', .int .i64 p0', .int .i64 p1', .bool o0', .bool o1', .bool sp', .int .u32 a', .int .u32 b'], .slice B sc.length cB, .int .i64 5, .bool true, .int .u64 x] w fun e w' => e = .returned (.bool true) ∧ Below w.heap.size w w' := by
  obtain ⟨n, hn, h1, h2⟩ : ∃ n : Nat, 1 + c % 16 = (n : Int) ∧ 1 ≤ n ∧ n ≤ 16 := ⟨(1 + c % 16).toNat, by omega, by omega, by omega⟩
  have hO := (runA_ok n ⟨m', p0', p1', o0', o1', sp', a', b', List.replicate n z54, 0⟩ sc ⟨List.length_replicate, h2, by omega, rep_st n, Int.le_refl 0, by show (0 : Int) ≤ 4611686018427387904; omega⟩ rfl hS.len) sc.length (Nat.le_refl _)
  have HP := Lib.hid (fun (W : World) (h : ScOk W B sc) => played_c n h1 h2 c hn c0 m' p0' p1' o0' o1' sp' a' b' ha ha2 hb hb2 W B cB sc h)
  have HS := Lib.hid hS
  clear hS
  generalize runA n ⟨m', p0', p1', o0', o1', sp', a', b', List.replicate n z54, 0⟩ sc sc.length = s at *
  obtain ⟨⟨hlen, h16, h0, hst, hlo, hhi⟩, -⟩ := hO
  obtain ⟨m, p0, p1, o0, o1, sp, a, b, ys, lost⟩ := s
  simp only at hlen hst hlo hhi
  subst hlen
  go_enter Try.func8, Try.ntmps8
  have hB_0 : Below w.heap.size w w := Below.refl _ _
  go_wp2_with fail
  refine (awake_c _).mono ?_
  rintro e v1 ⟨rfl, hb1⟩
  obtain ⟨F_1, F_1'⟩ : Row v1 w.heap.size #[.int .i64 m', .int .i64 p0', .int .i64 p1', .bool o0', .bool o1', .bool sp', .int .u32 a', .int .u32 b'] := Row.step (by go_simp) (by go_simp) hb1
  have hB_1 : Below w.heap.size w v1 := bk (by go_simp) (by first | (go_simp; done) | (go_simp; omega) | exact Below.size (by assumption)) hb1
  clear hB_0 hb1
  have hz_1 : w.heap.size ≤ v1.heap.size := hB_1.size
  have hl_F_1 := isRow.lt F_1
  have ne_F_1_0 : ¬ w.heap.size = v1.heap.size := by omega
  have en_F_1_0 : ¬ v1.heap.size = w.heap.size := by omega
  have ne_F_1_1 : ¬ w.heap.size = v1.heap.size + 1 := by omega
  have en_F_1_1 : ¬ v1.heap.size + 1 = w.heap.size := by omega
  go_wp2_with fail
  refine (HP.out _ (HS.out.below hB_1)).mono ?_
  rintro e v0 ⟨gv, lv, rfl, hV0, hL0, n12, g1, g2, hb0⟩
  obtain ⟨V0, V0'⟩ : Row v0 gv #[.int .i64 m, .int .i64 p0, .int .i64 p1, .bool o0, .bool o1, .bool sp, .int .u32 a, .int .u32 b, .slice (some ⟨lv, 0, none⟩) ys.length ys.length, .int .i64 lost] := hV0
  obtain ⟨L0, L0'⟩ : Row v0 lv (FA ys) := hL0
  have hB0 : Below w.heap.size w v0 := bk hB_1 hB_1.size hb0
  have gw1 : w.heap.size ≤ gv := Nat.le_trans hB_1.size g1
  have gw2 : w.heap.size ≤ lv := Nat.le_trans hB_1.size g2
  have n21 : ¬ lv = gv := fun e => n12 e.symm
  clear hb0 F_1 F_1' hB_1 HP HS g1 g2 hn h1 h2
  have hS : SOk ys.length ⟨m, p0, p1, o0, o1, sp, a, b, ys, lost⟩ := ⟨rfl, h16, h0, hst, hlo, hhi⟩
  obtain ⟨N2, ok2, M2, m2, p02, p12, o02, o12, sp2, a2, b2, ys2, lost2, hD⟩ : ∃ (N2 : Int) (ok2 : Bool) (M2 m2 p02 p12 : Int) (o02 o12 sp2 : Bool) (a2 b2 : Int) (ys2 : List S54) (lost2 : Int), ∀ W, isRow W gv → rowAt W gv = #[.int .i64 m, .int .i64 p0, .int .i64 p1, .bool o0, .bool o1, .bool sp, .int .u32 a, .int .u32 b, .slice (some ⟨lv, 0, none⟩) ys.length ys.length, .int .i64 lost] → isRow W lv → rowAt W lv = FA ys → Calls Try.prog 28 #[.pointer (some ⟨gv, 0, none⟩), .int .i64 5, .bool true, .int .u64 x] W fun e w' => e = .returned (.tuple #[.int .u64 N2, .agg #[.bool ok2, .int .i64 M2], .bool true]) ∧ Row w' gv #[.int .i64 m2, .int .i64 p02, .int .i64 p12, .bool o02, .bool o12, .bool sp2, .int .u32 a2, .int .u32 b2, .slice (some ⟨lv, 0, none⟩) ys.length ys.length, .int .i64 lost2] ∧ Row w' lv (FA ys2) ∧ Aside2 gv lv W w' := ⟨_, _, _, _, _, _, _, _, _, _, _, _, _, fun W q1 q2 q3 q4 => vdo_c ys.length gv lv ⟨m, p0, p1, o0, o1, sp, a, b, ys, lost⟩ hS n12 W q3 q4 q1 q2 5 true x⟩
  have HD := Lib.hid hD
  clear hD
  go_wp2_with (at_builtin; refine Kd.R_append_rows k54 (Rr := k54.K v0) (w0 := v0) v0.heap.size rfl _ _ 22 54 (.agg (enc z54)) 56 rfl Try.underlying22 infoL5 rfl (by decide) (by decide) _ ([] : List S54) ys (some ⟨lv, 0, none⟩) ys.length ys.length (fun _ => True) (fun _ => False) rfl rfl (Kd.R_nil _ _ _ _ _) (fa_kd L0 L0' (by omega)) (fun p cs hp => by rw [k54_open hp]; exact k54_mkM _ _ _ _) (fun _ h => h.elim) (fun _ _ => trivial) (Below.refl _ _) (by simp) (by simp; omega) ?_; intro x_ v1 hR_ hb1 _ _; refine stop_in ?_)
  refine stop_out ?_
  rw [List.nil_append] at hR_
  obtain ⟨ob, cO, csO, rfl, hcO, hob, ⟨O_1, O_1'⟩, hpO⟩ := copied hR_ h0
  clear hR_
  have ne_V_O : ¬ gv = ob := by have := isRow.lt V0; omega
  have en_V_O : ¬ ob = gv := by omega
  have ne_L_O : ¬ lv = ob := by have := isRow.lt L0; omega
  have en_L_O : ¬ ob = lv := by omega
  have hwob : w.heap.size ≤ ob := Nat.le_trans hB0.size hob
  obtain ⟨V_1, V_1'⟩ : Row v1 gv #[.int .i64 m, .int .i64 p0, .int .i64 p1, .bool o0, .bool o1, .bool sp, .int .u32 a, .int .u32 b, .slice (some ⟨lv, 0, none⟩) ys.length ys.length, .int .i64 lost] := Row.step (by go_simp) (by go_simp) hb1
  obtain ⟨L_1, L_1'⟩ : Row v1 lv (FA ys) := Row.step (by go_simp) (by go_simp) hb1
  have hB_1 : Below w.heap.size w v1 := bk (by go_simp) (by first | (go_simp; done) | (go_simp; omega) | exact Below.size (by assumption)) hb1
  clear V0 V0' L0 L0' hB0 hb1
  have hz_1 : w.heap.size ≤ v1.heap.size := hB_1.size
  have hl_V_1 := isRow.lt V_1
  have ne_V_1_0 : ¬ gv = v1.heap.size := by omega
  have en_V_1_0 : ¬ v1.heap.size = gv := by omega
  have ne_V_1_1 : ¬ gv = v1.heap.size + 1 := by omega
  have en_V_1_1 : ¬ v1.heap.size + 1 = gv := by omega
  have hl_L_1 := isRow.lt L_1
  have ne_L_1_0 : ¬ lv = v1.heap.size := by omega
  have en_L_1_0 : ¬ v1.heap.size = lv := by omega
  have ne_L_1_1 : ¬ lv = v1.heap.size + 1 := by omega
  have en_L_1_1 : ¬ v1.heap.size + 1 = lv := by omega
  have hl_O_1 := isRow.lt O_1
  have ne_O_1_0 : ¬ ob = v1.heap.size := by omega
  have en_O_1_0 : ¬ v1.heap.size = ob := by omega
  have ne_O_1_1 : ¬ ob = v1.heap.size + 1 := by omega
  have en_O_1_1 : ¬ v1.heap.size + 1 = ob := by omega
  go_wp2_with fail
  have ne_V_F : ¬ gv = v1.heap.size := by omega
  have en_V_F : ¬ v1.heap.size = gv := by omega
  have ne_L_F : ¬ lv = v1.heap.size := by omega
  have en_L_F : ¬ v1.heap.size = lv := by omega
  have ne_O_F : ¬ ob = v1.heap.size := by omega
  have en_O_F : ¬ v1.heap.size = ob := by omega
  refine (HD.out _ (by go_simp) (by go_simp) (by go_simp) (by go_simp)).mono ?_
  rintro e v2 ⟨rfl, ⟨V_2, V_2'⟩, ⟨L_2, L_2'⟩, hA2⟩
  obtain ⟨O_2, O_2'⟩ : Row v2 ob csO := hA2.row ⟨by go_simp, by go_simp⟩ (by omega) (by omega)
  obtain ⟨F_2, F_2'⟩ : Row v2 v1.heap.size #[.int .i64 m, .int .i64 p0, .int .i64 p1, .bool o0, .bool o1, .bool sp, .int .u32 a, .int .u32 b] := hA2.row ⟨by go_simp, by go_simp⟩ (by omega) (by omega)
  have hB_2 : Below w.heap.size w v2 := hA2.below (by go_simp) (by first | omega | (go_simp; done) | (go_simp; omega)) (by first | omega | (go_simp; done) | (go_simp; omega)) (by first | (go_simp; done) | (go_simp; omega) | exact Below.size (by assumption))
  clear V_1 V_1' L_1 L_1' O_1 O_1' hB_1 hA2
  have hz_2 : w.heap.size ≤ v2.heap.size := hB_2.size
  have hl_V_2 := isRow.lt V_2
  have ne_V_2_0 : ¬ gv = v2.heap.size := by omega
  have en_V_2_0 : ¬ v2.heap.size = gv := by omega
  have ne_V_2_1 : ¬ gv = v2.heap.size + 1 := by omega
  have en_V_2_1 : ¬ v2.heap.size + 1 = gv := by omega
  have hl_L_2 := isRow.lt L_2
  have ne_L_2_0 : ¬ lv = v2.heap.size := by omega
  have en_L_2_0 : ¬ v2.heap.size = lv := by omega
  have ne_L_2_1 : ¬ lv = v2.heap.size + 1 := by omega
  have en_L_2_1 : ¬ v2.heap.size + 1 = lv := by omega
  have hl_O_2 := isRow.lt O_2
  have ne_O_2_0 : ¬ ob = v2.heap.size := by omega
  have en_O_2_0 : ¬ v2.heap.size = ob := by omega
  have ne_O_2_1 : ¬ ob = v2.heap.size + 1 := by omega
  have en_O_2_1 : ¬ v2.heap.size + 1 = ob := by omega
  have hl_F_2 := isRow.lt F_2
  have ne_F_2_0 : ¬ v1.heap.size = v2.heap.size := by omega
  have en_F_2_0 : ¬ v2.heap.size = v1.heap.size := by omega
  have ne_F_2_1 : ¬ v1.heap.size = v2.heap.size + 1 := by omega
  have en_F_2_1 : ¬ v2.heap.size + 1 = v1.heap.size := by omega
  go_wp2
  go_ret
  exact ⟨rfl, by go_simp⟩
end Go.Proofs.Ytkbaghblchlcnaa.Lr
