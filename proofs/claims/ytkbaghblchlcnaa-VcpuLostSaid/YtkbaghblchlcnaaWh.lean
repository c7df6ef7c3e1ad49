/- The law VcpuLost, walked. -/
import Derived.Test.YtkbaghblchlcnaaB20
namespace Go.Proofs.Ytkbaghblchlcnaa.Lr
open Go.RowKit Go.Shelf Go.Proofs.YtkbaghblchlcnaaW.PrintWords Go.Proofs.Ytkbaghblchlcnaa.IAll
attribute [local go_sem] Oper.semAt_some cell_row frozen_row isRow_setCell_eq rowAt_setCell_same rowAt_setCell_other isRow_alloc_eq rowAt_alloc rowAt_new rowAt_new' isRow_setRow_eq rowAt_setRow_same rowAt_setRow_other isRow_drew rowAt_drew size_setRow_ Lb_size Lb_at blk_ptr aggOf_agg below_alloc_e below_setCell_e below_setRow_e below_refl_e below_drew_r aside2_alloc_e aside2_setCell_e aside2_setRow_e aside2_drew_e aside2_refl_e aside2_drewN_e isRow_drewN rowAt_drewN below_drewN_e le_add_r offv_ptr one_lad zero_lad allOne_nil allOne_cons Value.oneCell' addr_at FA_size one_FA FA_size
attribute [local go_sem ↓] storeI storeC
attribute [local go_sem] eq2i eq2b eq2u
section
variable {xs : List S54} {id : Int} (hf : findOf xs id = -1)
include hf
theorem lost_end : endOk xs id = false := by unfold endOk; rw [hf]; rfl
theorem lost_ok : gOk id xs (dirGo true id) = false := by unfold gOk; rw [lost_end hf]; split <;> rfl
theorem lost_m : gM id xs (dirGo true id) = -1 := by unfold gM endM; rw [lost_end hf]; split <;> rfl
theorem lost_xs : gXs id xs (dirGo true id) = xs := by unfold gXs endXs; rw [lost_end hf]; split <;> rfl
theorem lost_more {lost : Int} (h1 : 0 ≤ id) (h2 : id < 1020) : gLost id xs (dirGo true id) lost = lost + 1 := by
  unfold gLost endLost dirGo realC
  rw [lost_end hf, decide_eq_true (.inl ⟨h1, by omega⟩)]
  simp [h2]
theorem lost_same {lost : Int} (h : ¬ (0 ≤ id ∧ id < 1020)) : gLost id xs (dirGo true id) lost = lost := by
  unfold gLost endLost dirGo realC
  rw [lost_end hf]
  by_cases h2 : id < 1020
  · rw [decide_eq_false (by omega)]; rfl
  · simp [h2]
end
set_option maxRecDepth 100000 in
set_option maxHeartbeats 4000000 in
theorem lost_law (c : Int) (c0 : 0 ≤ c) (m' p0' p1' : Int) (o0' o1' sp' : Bool) (a' b' : Int) (ha : 0 ≤ a') (ha2 : a' ≤ 4294967295) (hb : 0 ≤ b') (hb2 : b' ≤ 4294967295) (w : World) (B : Option Addr) (cB : Nat) (sc : List VA) (hS : ScOk w B sc) (id : Int) :
    Calls Try.prog 6 #[.int .u8 c, .agg #[.int .i64 m', .int .i64 p0', .int .i64 p1', .bool o0', .bool o1', .bool sp', .int .u32 a', .int .u32 b'], .slice B sc.length cB, .int .i64 id] w fun e w' => e = .returned (.bool true) ∧ Below w.heap.size w w' := by
  obtain ⟨n, hn, h1, h2⟩ : ∃ n : Nat, 1 + c % 16 = (n : Int) ∧ 1 ≤ n ∧ n ≤ 16 := ⟨(1 + c % 16).toNat, by omega, by omega, by omega⟩
  have hO := (runA_ok n ⟨m', p0', p1', o0', o1', sp', a', b', List.replicate n z54, 0⟩ sc ⟨List.length_replicate, h2, by omega, rep_st n, Int.le_refl 0, by show (0 : Int) ≤ 4611686018427387904; omega⟩ rfl hS.len) sc.length (Nat.le_refl _)
  have HP := Lib.hid (fun (W : World) (h : ScOk W B sc) => played_c n h1 h2 c hn c0 m' p0' p1' o0' o1' sp' a' b' ha ha2 hb hb2 W B cB sc h)
  have HS := Lib.hid hS
  clear hS
  generalize runA n ⟨m', p0', p1', o0', o1', sp', a', b', List.replicate n z54, 0⟩ sc sc.length = s at *
  obtain ⟨⟨hlen, h16, h0, hst, hlo, hhi⟩, -⟩ := hO
  obtain ⟨m, p0, p1, o0, o1, sp, a, b, ys, lost⟩ := s
  simp only at hlen hst hlo hhi
  subst hlen
  go_enter Try.func6, Try.ntmps6
  have hB_0 : Below w.heap.size w w := Below.refl _ _
  go_wp2_with fail
  refine (awake_c _).mono ?_
  rintro e v1 ⟨rfl, hb1⟩
  obtain ⟨F_1, F_1'⟩ : Row v1 w.heap.size #[.int .i64 m', .int .i64 p0', .int .i64 p1', .bool o0', .bool o1', .bool sp', .int .u32 a', .int .u32 b'] := Row.step (by go_simp) (by go_simp) hb1
  have hB_1 : Below w.heap.size w v1 := bk (by go_simp) (by first | (go_simp; done) | (go_simp; omega) | exact Below.size (by assumption)) hb1
  clear hB_0 hb1
  have hz_1 : w.heap.size ≤ v1.heap.size := hB_1.size
  have hl_F_1 := isRow.lt F_1
  have ne_F_1_0 : ¬ w.heap.size = v1.heap.size := by omega
  have en_F_1_0 : ¬ v1.heap.size = w.heap.size := by omega
  have ne_F_1_1 : ¬ w.heap.size = v1.heap.size + 1 := by omega
  have en_F_1_1 : ¬ v1.heap.size + 1 = w.heap.size := by omega
  go_wp2_with fail
  refine (HP.out _ (HS.out.below hB_1)).mono ?_
  rintro e v0 ⟨gv, lv, rfl, hV0, hL0, n12, g1, g2, hb0⟩
  obtain ⟨V0, V0'⟩ : Row v0 gv #[.int .i64 m, .int .i64 p0, .int .i64 p1, .bool o0, .bool o1, .bool sp, .int .u32 a, .int .u32 b, .slice (some ⟨lv, 0, none⟩) ys.length ys.length, .int .i64 lost] := hV0
  obtain ⟨L0, L0'⟩ : Row v0 lv (FA ys) := hL0
  have hB0 : Below w.heap.size w v0 := bk hB_1 hB_1.size hb0
  have gw1 : w.heap.size ≤ gv := Nat.le_trans hB_1.size g1
  have gw2 : w.heap.size ≤ lv := Nat.le_trans hB_1.size g2
  have n21 : ¬ lv = gv := fun e => n12 e.symm
  clear hb0 F_1 F_1' hB_1 HP HS g1 g2 hn h1 h2
  have hF : ∀ W, isRow W gv → rowAt W gv = #[.int .i64 m, .int .i64 p0, .int .i64 p1, .bool o0, .bool o1, .bool sp, .int .u32 a, .int .u32 b, .slice (some ⟨lv, 0, none⟩) ys.length ys.length, .int .i64 lost] → isRow W lv → rowAt W lv = FA ys → Calls Try.prog 22 #[.slice (some ⟨lv, 0, none⟩) ys.length ys.length, .int .i64 id] W fun e w' => e = .returned (.int .i64 (findOf ys id)) ∧ Below W.heap.size W w' := fun W _ _ q q' => vfind h16 q q' id
  rcases find_range ys id with hf | ⟨k, hf, -, -, -⟩
  · rw [hf] at hF
    have HF := Lib.hid hF
    clear hF
    have hA : ∀ W, isRow W gv → rowAt W gv = #[.int .i64 m, .int .i64 p0, .int .i64 p1, .bool o0, .bool o1, .bool true, .int .u32 a, .int .u32 b, .slice (some ⟨lv, 0, none⟩) ys.length ys.length, .int .i64 (lost + 1)] → isRow W lv → rowAt W lv = FA ys → Calls Try.prog 26 #[.pointer (some ⟨gv, 0, none⟩), .int .i64 2] W fun e w' => e = .returned (.bool true) ∧ Below W.heap.size W w' := fun W q1 q2 q3 q4 => by
      have q := asks2_c gv lv m p0 p1 o0 o1 true a b ys.length ys rfl h16 (lost + 1) W q1 q2 q3 q4 n12
      rw [show asks ys (lost + 1) 2 = true from by unfold asks; rw [if_neg (by decide), if_neg (by decide), if_pos rfl, decide_eq_true (by omega)]] at q
      exact q
    have HA := Lib.hid hA
    clear hA
    by_cases hq1 : 0 ≤ id
    · by_cases hq2 : id < 1020
      · skip
        have hD : ∀ W, isRow W gv → rowAt W gv = #[.int .i64 m, .int .i64 p0, .int .i64 p1, .bool o0, .bool o1, .bool true, .int .u32 a, .int .u32 b, .slice (some ⟨lv, 0, none⟩) ys.length ys.length, .int .i64 lost] → isRow W lv → rowAt W lv = FA ys → Calls Try.prog 24 #[.pointer (some ⟨gv, 0, none⟩), .int .i64 id] W fun e w' => e = .returned (.agg #[.bool false, .int .i64 (-1)]) ∧ Row w' gv #[.int .i64 m, .int .i64 p0, .int .i64 p1, .bool o0, .bool o1, .bool true, .int .u32 a, .int .u32 b, .slice (some ⟨lv, 0, none⟩) ys.length ys.length, .int .i64 (lost + 1)] ∧ Row w' lv (FA ys) ∧ Aside2 gv lv W w' := fun W q1 q2 q3 q4 => by
          have q := dir_c gv lv m p0 p1 o0 o1 true a b ys h16 hst lost id hlo hhi n12 W q1 q2 q3 q4
          rw [lost_ok hf, lost_m hf, lost_xs hf, lost_more hf hq1 hq2] at q
          exact q
        have HD := Lib.hid hD
        clear hD
        have hw : IntKind.i64.wrap (lost + 1) = lost + 1 := IntWalk.i64_in _ (by omega)
        go_wp2_with fail
        refine (HF.out _ V0 V0' L0 L0').mono ?_
        rintro e v1 ⟨rfl, hb1⟩
        obtain ⟨V_1, V_1'⟩ : Row v1 gv #[.int .i64 m, .int .i64 p0, .int .i64 p1, .bool o0, .bool o1, .bool sp, .int .u32 a, .int .u32 b, .slice (some ⟨lv, 0, none⟩) ys.length ys.length, .int .i64 lost] := Row.step (by go_simp) (by go_simp) hb1
        obtain ⟨L_1, L_1'⟩ : Row v1 lv (FA ys) := Row.step (by go_simp) (by go_simp) hb1
        have hB_1 : Below w.heap.size w v1 := bk (by go_simp) (by first | (go_simp; done) | (go_simp; omega) | exact Below.size (by assumption)) hb1
        clear V0 V0' L0 L0' hB0 hb1
        have hz_1 : w.heap.size ≤ v1.heap.size := hB_1.size
        have hl_V_1 := isRow.lt V_1
        have ne_V_1_0 : ¬ gv = v1.heap.size := by omega
        have en_V_1_0 : ¬ v1.heap.size = gv := by omega
        have ne_V_1_1 : ¬ gv = v1.heap.size + 1 := by omega
        have en_V_1_1 : ¬ v1.heap.size + 1 = gv := by omega
        have hl_L_1 := isRow.lt L_1
        have ne_L_1_0 : ¬ lv = v1.heap.size := by omega
        have en_L_1_0 : ¬ v1.heap.size = lv := by omega
        have ne_L_1_1 : ¬ lv = v1.heap.size + 1 := by omega
        have en_L_1_1 : ¬ v1.heap.size + 1 = lv := by omega
        go_wp2_with (at_builtin; refine Kd.R_append_rows k54 (Rr := k54.K v1) (w0 := v1) v1.heap.size rfl _ _ 22 54 (.agg (enc z54)) 56 rfl Try.underlying22 infoL5 rfl (by decide) (by decide) _ ([] : List S54) ys (some ⟨lv, 0, none⟩) ys.length ys.length (fun _ => True) (fun _ => False) rfl rfl (Kd.R_nil _ _ _ _ _) (fa_kd L_1 L_1' (by omega)) (fun p cs hp => by rw [k54_open hp]; exact k54_mkM _ _ _ _) (fun _ h => h.elim) (fun _ _ => trivial) (Below.refl _ _) (by simp) (by simp; omega) ?_; intro x_ v2 hR_ hb2 _ _; refine stop_in ?_)
        refine stop_out ?_
        rw [List.nil_append] at hR_
        obtain ⟨ob, cO, csO, rfl, hcO, hob, ⟨O_2, O_2'⟩, hpO⟩ := copied hR_ h0
        clear hR_
        have ne_V_O : ¬ gv = ob := by have := isRow.lt V_1; omega
        have en_V_O : ¬ ob = gv := by omega
        have ne_L_O : ¬ lv = ob := by have := isRow.lt L_1; omega
        have en_L_O : ¬ ob = lv := by omega
        have hwob : w.heap.size ≤ ob := Nat.le_trans hB_1.size hob
        obtain ⟨V_2, V_2'⟩ : Row v2 gv #[.int .i64 m, .int .i64 p0, .int .i64 p1, .bool o0, .bool o1, .bool sp, .int .u32 a, .int .u32 b, .slice (some ⟨lv, 0, none⟩) ys.length ys.length, .int .i64 lost] := Row.step (by go_simp) (by go_simp) hb2
        obtain ⟨L_2, L_2'⟩ : Row v2 lv (FA ys) := Row.step (by go_simp) (by go_simp) hb2
        have hB_2 : Below w.heap.size w v2 := bk (by go_simp) (by first | (go_simp; done) | (go_simp; omega) | exact Below.size (by assumption)) hb2
        clear V_1 V_1' L_1 L_1' hB_1 hb2
        have hz_2 : w.heap.size ≤ v2.heap.size := hB_2.size
        have hl_V_2 := isRow.lt V_2
        have ne_V_2_0 : ¬ gv = v2.heap.size := by omega
        have en_V_2_0 : ¬ v2.heap.size = gv := by omega
        have ne_V_2_1 : ¬ gv = v2.heap.size + 1 := by omega
        have en_V_2_1 : ¬ v2.heap.size + 1 = gv := by omega
        have hl_L_2 := isRow.lt L_2
        have ne_L_2_0 : ¬ lv = v2.heap.size := by omega
        have en_L_2_0 : ¬ v2.heap.size = lv := by omega
        have ne_L_2_1 : ¬ lv = v2.heap.size + 1 := by omega
        have en_L_2_1 : ¬ v2.heap.size + 1 = lv := by omega
        have hl_O_2 := isRow.lt O_2
        have ne_O_2_0 : ¬ ob = v2.heap.size := by omega
        have en_O_2_0 : ¬ v2.heap.size = ob := by omega
        have ne_O_2_1 : ¬ ob = v2.heap.size + 1 := by omega
        have en_O_2_1 : ¬ v2.heap.size + 1 = ob := by omega
        go_wp2_with fail
        refine (HD.out _ (by go_simp) (by go_simp) (by go_simp) (by go_simp)).mono ?_
        rintro e v3 ⟨rfl, ⟨V_3, V_3'⟩, ⟨L_3, L_3'⟩, hA3⟩
        obtain ⟨O_3, O_3'⟩ : Row v3 ob csO := hA3.row ⟨by go_simp, by go_simp⟩ (by omega) (by omega)
        have hB_3 : Below w.heap.size w v3 := hA3.below (by go_simp) (by first | omega | (go_simp; done) | (go_simp; omega)) (by first | omega | (go_simp; done) | (go_simp; omega)) (by first | (go_simp; done) | (go_simp; omega) | exact Below.size (by assumption))
        clear V_2 V_2' L_2 L_2' O_2 O_2' hB_2 hA3
        have hz_3 : w.heap.size ≤ v3.heap.size := hB_3.size
        have hl_V_3 := isRow.lt V_3
        have ne_V_3_0 : ¬ gv = v3.heap.size := by omega
        have en_V_3_0 : ¬ v3.heap.size = gv := by omega
        have ne_V_3_1 : ¬ gv = v3.heap.size + 1 := by omega
        have en_V_3_1 : ¬ v3.heap.size + 1 = gv := by omega
        have hl_L_3 := isRow.lt L_3
        have ne_L_3_0 : ¬ lv = v3.heap.size := by omega
        have en_L_3_0 : ¬ v3.heap.size = lv := by omega
        have ne_L_3_1 : ¬ lv = v3.heap.size + 1 := by omega
        have en_L_3_1 : ¬ v3.heap.size + 1 = lv := by omega
        have hl_O_3 := isRow.lt O_3
        have ne_O_3_0 : ¬ ob = v3.heap.size := by omega
        have en_O_3_0 : ¬ v3.heap.size = ob := by omega
        have ne_O_3_1 : ¬ ob = v3.heap.size + 1 := by omega
        have en_O_3_1 : ¬ v3.heap.size + 1 = ob := by omega
        go_wp2_with fail
        have ne_V_E : ¬ gv = v3.heap.size := by omega
        have en_V_E : ¬ v3.heap.size = gv := by omega
        have ne_L_E : ¬ lv = v3.heap.size := by omega
        have en_L_E : ¬ v3.heap.size = lv := by omega
        have ne_O_E : ¬ ob = v3.heap.size := by omega
        have en_O_E : ¬ v3.heap.size = ob := by omega
        refine (same_c h16 (by go_simp) (by go_simp) hpO hcO (by go_simp) (by go_simp) (Nat.le_refl _)).mono ?_
        rintro e v4 ⟨rfl, hb4⟩
        obtain ⟨V_4, V_4'⟩ : Row v4 gv #[.int .i64 m, .int .i64 p0, .int .i64 p1, .bool o0, .bool o1, .bool true, .int .u32 a, .int .u32 b, .slice (some ⟨lv, 0, none⟩) ys.length ys.length, .int .i64 (lost + 1)] := Row.step (by go_simp) (by go_simp) hb4
        obtain ⟨L_4, L_4'⟩ : Row v4 lv (FA ys) := Row.step (by go_simp) (by go_simp) hb4
        obtain ⟨O_4, O_4'⟩ : Row v4 ob csO := Row.step (by go_simp) (by go_simp) hb4
        obtain ⟨E_4, E_4'⟩ : Row v4 v3.heap.size #[.bool false, .int .i64 (-1)] := Row.step (by go_simp) (by go_simp) hb4
        have hB_4 : Below w.heap.size w v4 := bk (by go_simp) (by first | (go_simp; done) | (go_simp; omega) | exact Below.size (by assumption)) hb4
        clear V_3 V_3' L_3 L_3' O_3 O_3' hB_3 hb4
        have hz_4 : w.heap.size ≤ v4.heap.size := hB_4.size
        have hl_V_4 := isRow.lt V_4
        have ne_V_4_0 : ¬ gv = v4.heap.size := by omega
        have en_V_4_0 : ¬ v4.heap.size = gv := by omega
        have ne_V_4_1 : ¬ gv = v4.heap.size + 1 := by omega
        have en_V_4_1 : ¬ v4.heap.size + 1 = gv := by omega
        have hl_L_4 := isRow.lt L_4
        have ne_L_4_0 : ¬ lv = v4.heap.size := by omega
        have en_L_4_0 : ¬ v4.heap.size = lv := by omega
        have ne_L_4_1 : ¬ lv = v4.heap.size + 1 := by omega
        have en_L_4_1 : ¬ v4.heap.size + 1 = lv := by omega
        have hl_O_4 := isRow.lt O_4
        have ne_O_4_0 : ¬ ob = v4.heap.size := by omega
        have en_O_4_0 : ¬ v4.heap.size = ob := by omega
        have ne_O_4_1 : ¬ ob = v4.heap.size + 1 := by omega
        have en_O_4_1 : ¬ v4.heap.size + 1 = ob := by omega
        have hl_E_4 := isRow.lt E_4
        have ne_E_4_0 : ¬ v3.heap.size = v4.heap.size := by omega
        have en_E_4_0 : ¬ v4.heap.size = v3.heap.size := by omega
        have ne_E_4_1 : ¬ v3.heap.size = v4.heap.size + 1 := by omega
        have en_E_4_1 : ¬ v4.heap.size + 1 = v3.heap.size := by omega
        go_wp2_with fail
        refine (HA.out _ (by go_simp) (by go_simp) (by go_simp) (by go_simp)).mono ?_
        rintro e v5 ⟨rfl, hb5⟩
        obtain ⟨V_5, V_5'⟩ : Row v5 gv #[.int .i64 m, .int .i64 p0, .int .i64 p1, .bool o0, .bool o1, .bool true, .int .u32 a, .int .u32 b, .slice (some ⟨lv, 0, none⟩) ys.length ys.length, .int .i64 (lost + 1)] := Row.step (by go_simp) (by go_simp) hb5
        obtain ⟨L_5, L_5'⟩ : Row v5 lv (FA ys) := Row.step (by go_simp) (by go_simp) hb5
        obtain ⟨O_5, O_5'⟩ : Row v5 ob csO := Row.step (by go_simp) (by go_simp) hb5
        obtain ⟨E_5, E_5'⟩ : Row v5 v3.heap.size #[.bool false, .int .i64 (-1)] := Row.step (by go_simp) (by go_simp) hb5
        have hB_5 : Below w.heap.size w v5 := bk (by go_simp) (by first | (go_simp; done) | (go_simp; omega) | exact Below.size (by assumption)) hb5
        clear V_4 V_4' L_4 L_4' O_4 O_4' E_4 E_4' hB_4 hb5
        have hz_5 : w.heap.size ≤ v5.heap.size := hB_5.size
        have hl_V_5 := isRow.lt V_5
        have ne_V_5_0 : ¬ gv = v5.heap.size := by omega
        have en_V_5_0 : ¬ v5.heap.size = gv := by omega
        have ne_V_5_1 : ¬ gv = v5.heap.size + 1 := by omega
        have en_V_5_1 : ¬ v5.heap.size + 1 = gv := by omega
        have hl_L_5 := isRow.lt L_5
        have ne_L_5_0 : ¬ lv = v5.heap.size := by omega
        have en_L_5_0 : ¬ v5.heap.size = lv := by omega
        have ne_L_5_1 : ¬ lv = v5.heap.size + 1 := by omega
        have en_L_5_1 : ¬ v5.heap.size + 1 = lv := by omega
        have hl_O_5 := isRow.lt O_5
        have ne_O_5_0 : ¬ ob = v5.heap.size := by omega
        have en_O_5_0 : ¬ v5.heap.size = ob := by omega
        have ne_O_5_1 : ¬ ob = v5.heap.size + 1 := by omega
        have en_O_5_1 : ¬ v5.heap.size + 1 = ob := by omega
        have hl_E_5 := isRow.lt E_5
        have ne_E_5_0 : ¬ v3.heap.size = v5.heap.size := by omega
        have en_E_5_0 : ¬ v5.heap.size = v3.heap.size := by omega
        have ne_E_5_1 : ¬ v3.heap.size = v5.heap.size + 1 := by omega
        have en_E_5_1 : ¬ v5.heap.size + 1 = v3.heap.size := by omega
        go_wp2
        go_ret
        exact ⟨rfl, by go_simp⟩
      · skip
        have hD : ∀ W, isRow W gv → rowAt W gv = #[.int .i64 m, .int .i64 p0, .int .i64 p1, .bool o0, .bool o1, .bool true, .int .u32 a, .int .u32 b, .slice (some ⟨lv, 0, none⟩) ys.length ys.length, .int .i64 lost] → isRow W lv → rowAt W lv = FA ys → Calls Try.prog 24 #[.pointer (some ⟨gv, 0, none⟩), .int .i64 id] W fun e w' => e = .returned (.agg #[.bool false, .int .i64 (-1)]) ∧ Row w' gv #[.int .i64 m, .int .i64 p0, .int .i64 p1, .bool o0, .bool o1, .bool true, .int .u32 a, .int .u32 b, .slice (some ⟨lv, 0, none⟩) ys.length ys.length, .int .i64 lost] ∧ Row w' lv (FA ys) ∧ Aside2 gv lv W w' := fun W q1 q2 q3 q4 => by
          have q := dir_c gv lv m p0 p1 o0 o1 true a b ys h16 hst lost id hlo hhi n12 W q1 q2 q3 q4
          rw [lost_ok hf, lost_m hf, lost_xs hf, lost_same hf (fun q => hq2 q.2)] at q
          exact q
        have HD := Lib.hid hD
        clear hD
        have hw : IntKind.i64.wrap (lost + 0) = lost := by rw [Int.add_zero]; exact IntWalk.i64_in _ (by omega)
        go_wp2_with fail
        refine (HF.out _ V0 V0' L0 L0').mono ?_
        rintro e v1 ⟨rfl, hb1⟩
        obtain ⟨V_1, V_1'⟩ : Row v1 gv #[.int .i64 m, .int .i64 p0, .int .i64 p1, .bool o0, .bool o1, .bool sp, .int .u32 a, .int .u32 b, .slice (some ⟨lv, 0, none⟩) ys.length ys.length, .int .i64 lost] := Row.step (by go_simp) (by go_simp) hb1
        obtain ⟨L_1, L_1'⟩ : Row v1 lv (FA ys) := Row.step (by go_simp) (by go_simp) hb1
        have hB_1 : Below w.heap.size w v1 := bk (by go_simp) (by first | (go_simp; done) | (go_simp; omega) | exact Below.size (by assumption)) hb1
        clear V0 V0' L0 L0' hB0 hb1
        have hz_1 : w.heap.size ≤ v1.heap.size := hB_1.size
        have hl_V_1 := isRow.lt V_1
        have ne_V_1_0 : ¬ gv = v1.heap.size := by omega
        have en_V_1_0 : ¬ v1.heap.size = gv := by omega
        have ne_V_1_1 : ¬ gv = v1.heap.size + 1 := by omega
        have en_V_1_1 : ¬ v1.heap.size + 1 = gv := by omega
        have hl_L_1 := isRow.lt L_1
        have ne_L_1_0 : ¬ lv = v1.heap.size := by omega
        have en_L_1_0 : ¬ v1.heap.size = lv := by omega
        have ne_L_1_1 : ¬ lv = v1.heap.size + 1 := by omega
        have en_L_1_1 : ¬ v1.heap.size + 1 = lv := by omega
        go_wp2_with (at_builtin; refine Kd.R_append_rows k54 (Rr := k54.K v1) (w0 := v1) v1.heap.size rfl _ _ 22 54 (.agg (enc z54)) 56 rfl Try.underlying22 infoL5 rfl (by decide) (by decide) _ ([] : List S54) ys (some ⟨lv, 0, none⟩) ys.length ys.length (fun _ => True) (fun _ => False) rfl rfl (Kd.R_nil _ _ _ _ _) (fa_kd L_1 L_1' (by omega)) (fun p cs hp => by rw [k54_open hp]; exact k54_mkM _ _ _ _) (fun _ h => h.elim) (fun _ _ => trivial) (Below.refl _ _) (by simp) (by simp; omega) ?_; intro x_ v2 hR_ hb2 _ _; refine stop_in ?_)
        refine stop_out ?_
        rw [List.nil_append] at hR_
        obtain ⟨ob, cO, csO, rfl, hcO, hob, ⟨O_2, O_2'⟩, hpO⟩ := copied hR_ h0
        clear hR_
        have ne_V_O : ¬ gv = ob := by have := isRow.lt V_1; omega
        have en_V_O : ¬ ob = gv := by omega
        have ne_L_O : ¬ lv = ob := by have := isRow.lt L_1; omega
        have en_L_O : ¬ ob = lv := by omega
        have hwob : w.heap.size ≤ ob := Nat.le_trans hB_1.size hob
        obtain ⟨V_2, V_2'⟩ : Row v2 gv #[.int .i64 m, .int .i64 p0, .int .i64 p1, .bool o0, .bool o1, .bool sp, .int .u32 a, .int .u32 b, .slice (some ⟨lv, 0, none⟩) ys.length ys.length, .int .i64 lost] := Row.step (by go_simp) (by go_simp) hb2
        obtain ⟨L_2, L_2'⟩ : Row v2 lv (FA ys) := Row.step (by go_simp) (by go_simp) hb2
        have hB_2 : Below w.heap.size w v2 := bk (by go_simp) (by first | (go_simp; done) | (go_simp; omega) | exact Below.size (by assumption)) hb2
        clear V_1 V_1' L_1 L_1' hB_1 hb2
        have hz_2 : w.heap.size ≤ v2.heap.size := hB_2.size
        have hl_V_2 := isRow.lt V_2
        have ne_V_2_0 : ¬ gv = v2.heap.size := by omega
        have en_V_2_0 : ¬ v2.heap.size = gv := by omega
        have ne_V_2_1 : ¬ gv = v2.heap.size + 1 := by omega
        have en_V_2_1 : ¬ v2.heap.size + 1 = gv := by omega
        have hl_L_2 := isRow.lt L_2
        have ne_L_2_0 : ¬ lv = v2.heap.size := by omega
        have en_L_2_0 : ¬ v2.heap.size = lv := by omega
        have ne_L_2_1 : ¬ lv = v2.heap.size + 1 := by omega
        have en_L_2_1 : ¬ v2.heap.size + 1 = lv := by omega
        have hl_O_2 := isRow.lt O_2
        have ne_O_2_0 : ¬ ob = v2.heap.size := by omega
        have en_O_2_0 : ¬ v2.heap.size = ob := by omega
        have ne_O_2_1 : ¬ ob = v2.heap.size + 1 := by omega
        have en_O_2_1 : ¬ v2.heap.size + 1 = ob := by omega
        go_wp2_with fail
        refine (HD.out _ (by go_simp) (by go_simp) (by go_simp) (by go_simp)).mono ?_
        rintro e v3 ⟨rfl, ⟨V_3, V_3'⟩, ⟨L_3, L_3'⟩, hA3⟩
        obtain ⟨O_3, O_3'⟩ : Row v3 ob csO := hA3.row ⟨by go_simp, by go_simp⟩ (by omega) (by omega)
        have hB_3 : Below w.heap.size w v3 := hA3.below (by go_simp) (by first | omega | (go_simp; done) | (go_simp; omega)) (by first | omega | (go_simp; done) | (go_simp; omega)) (by first | (go_simp; done) | (go_simp; omega) | exact Below.size (by assumption))
        clear V_2 V_2' L_2 L_2' O_2 O_2' hB_2 hA3
        have hz_3 : w.heap.size ≤ v3.heap.size := hB_3.size
        have hl_V_3 := isRow.lt V_3
        have ne_V_3_0 : ¬ gv = v3.heap.size := by omega
        have en_V_3_0 : ¬ v3.heap.size = gv := by omega
        have ne_V_3_1 : ¬ gv = v3.heap.size + 1 := by omega
        have en_V_3_1 : ¬ v3.heap.size + 1 = gv := by omega
        have hl_L_3 := isRow.lt L_3
        have ne_L_3_0 : ¬ lv = v3.heap.size := by omega
        have en_L_3_0 : ¬ v3.heap.size = lv := by omega
        have ne_L_3_1 : ¬ lv = v3.heap.size + 1 := by omega
        have en_L_3_1 : ¬ v3.heap.size + 1 = lv := by omega
        have hl_O_3 := isRow.lt O_3
        have ne_O_3_0 : ¬ ob = v3.heap.size := by omega
        have en_O_3_0 : ¬ v3.heap.size = ob := by omega
        have ne_O_3_1 : ¬ ob = v3.heap.size + 1 := by omega
        have en_O_3_1 : ¬ v3.heap.size + 1 = ob := by omega
        go_wp2_with fail
        have ne_V_E : ¬ gv = v3.heap.size := by omega
        have en_V_E : ¬ v3.heap.size = gv := by omega
        have ne_L_E : ¬ lv = v3.heap.size := by omega
        have en_L_E : ¬ v3.heap.size = lv := by omega
        have ne_O_E : ¬ ob = v3.heap.size := by omega
        have en_O_E : ¬ v3.heap.size = ob := by omega
        refine (same_c h16 (by go_simp) (by go_simp) hpO hcO (by go_simp) (by go_simp) (Nat.le_refl _)).mono ?_
        rintro e v4 ⟨rfl, hb4⟩
        obtain ⟨V_4, V_4'⟩ : Row v4 gv #[.int .i64 m, .int .i64 p0, .int .i64 p1, .bool o0, .bool o1, .bool true, .int .u32 a, .int .u32 b, .slice (some ⟨lv, 0, none⟩) ys.length ys.length, .int .i64 lost] := Row.step (by go_simp) (by go_simp) hb4
        obtain ⟨L_4, L_4'⟩ : Row v4 lv (FA ys) := Row.step (by go_simp) (by go_simp) hb4
        obtain ⟨O_4, O_4'⟩ : Row v4 ob csO := Row.step (by go_simp) (by go_simp) hb4
        obtain ⟨E_4, E_4'⟩ : Row v4 v3.heap.size #[.bool false, .int .i64 (-1)] := Row.step (by go_simp) (by go_simp) hb4
        have hB_4 : Below w.heap.size w v4 := bk (by go_simp) (by first | (go_simp; done) | (go_simp; omega) | exact Below.size (by assumption)) hb4
        clear V_3 V_3' L_3 L_3' O_3 O_3' hB_3 hb4
        have hz_4 : w.heap.size ≤ v4.heap.size := hB_4.size
        have hl_V_4 := isRow.lt V_4
        have ne_V_4_0 : ¬ gv = v4.heap.size := by omega
        have en_V_4_0 : ¬ v4.heap.size = gv := by omega
        have ne_V_4_1 : ¬ gv = v4.heap.size + 1 := by omega
        have en_V_4_1 : ¬ v4.heap.size + 1 = gv := by omega
        have hl_L_4 := isRow.lt L_4
        have ne_L_4_0 : ¬ lv = v4.heap.size := by omega
        have en_L_4_0 : ¬ v4.heap.size = lv := by omega
        have ne_L_4_1 : ¬ lv = v4.heap.size + 1 := by omega
        have en_L_4_1 : ¬ v4.heap.size + 1 = lv := by omega
        have hl_O_4 := isRow.lt O_4
        have ne_O_4_0 : ¬ ob = v4.heap.size := by omega
        have en_O_4_0 : ¬ v4.heap.size = ob := by omega
        have ne_O_4_1 : ¬ ob = v4.heap.size + 1 := by omega
        have en_O_4_1 : ¬ v4.heap.size + 1 = ob := by omega
        have hl_E_4 := isRow.lt E_4
        have ne_E_4_0 : ¬ v3.heap.size = v4.heap.size := by omega
        have en_E_4_0 : ¬ v4.heap.size = v3.heap.size := by omega
        have ne_E_4_1 : ¬ v3.heap.size = v4.heap.size + 1 := by omega
        have en_E_4_1 : ¬ v4.heap.size + 1 = v3.heap.size := by omega
        go_wp2
        go_ret
        exact ⟨rfl, by go_simp⟩
    · skip
      have hD : ∀ W, isRow W gv → rowAt W gv = #[.int .i64 m, .int .i64 p0, .int .i64 p1, .bool o0, .bool o1, .bool true, .int .u32 a, .int .u32 b, .slice (some ⟨lv, 0, none⟩) ys.length ys.length, .int .i64 lost] → isRow W lv → rowAt W lv = FA ys → Calls Try.prog 24 #[.pointer (some ⟨gv, 0, none⟩), .int .i64 id] W fun e w' => e = .returned (.agg #[.bool false, .int .i64 (-1)]) ∧ Row w' gv #[.int .i64 m, .int .i64 p0, .int .i64 p1, .bool o0, .bool o1, .bool true, .int .u32 a, .int .u32 b, .slice (some ⟨lv, 0, none⟩) ys.length ys.length, .int .i64 lost] ∧ Row w' lv (FA ys) ∧ Aside2 gv lv W w' := fun W q1 q2 q3 q4 => by
        have q := dir_c gv lv m p0 p1 o0 o1 true a b ys h16 hst lost id hlo hhi n12 W q1 q2 q3 q4
        rw [lost_ok hf, lost_m hf, lost_xs hf, lost_same hf (fun q => hq1 q.1)] at q
        exact q
      have HD := Lib.hid hD
      clear hD
      have hw : IntKind.i64.wrap (lost + 0) = lost := by rw [Int.add_zero]; exact IntWalk.i64_in _ (by omega)
      go_wp2_with fail
      refine (HF.out _ V0 V0' L0 L0').mono ?_
      rintro e v1 ⟨rfl, hb1⟩
      obtain ⟨V_1, V_1'⟩ : Row v1 gv #[.int .i64 m, .int .i64 p0, .int .i64 p1, .bool o0, .bool o1, .bool sp, .int .u32 a, .int .u32 b, .slice (some ⟨lv, 0, none⟩) ys.length ys.length, .int .i64 lost] := Row.step (by go_simp) (by go_simp) hb1
      obtain ⟨L_1, L_1'⟩ : Row v1 lv (FA ys) := Row.step (by go_simp) (by go_simp) hb1
      have hB_1 : Below w.heap.size w v1 := bk (by go_simp) (by first | (go_simp; done) | (go_simp; omega) | exact Below.size (by assumption)) hb1
      clear V0 V0' L0 L0' hB0 hb1
      have hz_1 : w.heap.size ≤ v1.heap.size := hB_1.size
      have hl_V_1 := isRow.lt V_1
      have ne_V_1_0 : ¬ gv = v1.heap.size := by omega
      have en_V_1_0 : ¬ v1.heap.size = gv := by omega
      have ne_V_1_1 : ¬ gv = v1.heap.size + 1 := by omega
      have en_V_1_1 : ¬ v1.heap.size + 1 = gv := by omega
      have hl_L_1 := isRow.lt L_1
      have ne_L_1_0 : ¬ lv = v1.heap.size := by omega
      have en_L_1_0 : ¬ v1.heap.size = lv := by omega
      have ne_L_1_1 : ¬ lv = v1.heap.size + 1 := by omega
      have en_L_1_1 : ¬ v1.heap.size + 1 = lv := by omega
      go_wp2_with (at_builtin; refine Kd.R_append_rows k54 (Rr := k54.K v1) (w0 := v1) v1.heap.size rfl _ _ 22 54 (.agg (enc z54)) 56 rfl Try.underlying22 infoL5 rfl (by decide) (by decide) _ ([] : List S54) ys (some ⟨lv, 0, none⟩) ys.length ys.length (fun _ => True) (fun _ => False) rfl rfl (Kd.R_nil _ _ _ _ _) (fa_kd L_1 L_1' (by omega)) (fun p cs hp => by rw [k54_open hp]; exact k54_mkM _ _ _ _) (fun _ h => h.elim) (fun _ _ => trivial) (Below.refl _ _) (by simp) (by simp; omega) ?_; intro x_ v2 hR_ hb2 _ _; refine stop_in ?_)
      refine stop_out ?_
      rw [List.nil_append] at hR_
      obtain ⟨ob, cO, csO, rfl, hcO, hob, ⟨O_2, O_2'⟩, hpO⟩ := copied hR_ h0
      clear hR_
      have ne_V_O : ¬ gv = ob := by have := isRow.lt V_1; omega
      have en_V_O : ¬ ob = gv := by omega
      have ne_L_O : ¬ lv = ob := by have := isRow.lt L_1; omega
      have en_L_O : ¬ ob = lv := by omega
      have hwob : w.heap.size ≤ ob := Nat.le_trans hB_1.size hob
      obtain ⟨V_2, V_2'⟩ : Row v2 gv #[.int .i64 m, .int .i64 p0, .int .i64 p1, .bool o0, .bool o1, .bool sp, .int .u32 a, .int .u32 b, .slice (some ⟨lv, 0, none⟩) ys.length ys.length, .int .i64 lost] := Row.step (by go_simp) (by go_simp) hb2
      obtain ⟨L_2, L_2'⟩ : Row v2 lv (FA ys) := Row.step (by go_simp) (by go_simp) hb2
      have hB_2 : Below w.heap.size w v2 := bk (by go_simp) (by first | (go_simp; done) | (go_simp; omega) | exact Below.size (by assumption)) hb2
      clear V_1 V_1' L_1 L_1' hB_1 hb2
      have hz_2 : w.heap.size ≤ v2.heap.size := hB_2.size
      have hl_V_2 := isRow.lt V_2
      have ne_V_2_0 : ¬ gv = v2.heap.size := by omega
      have en_V_2_0 : ¬ v2.heap.size = gv := by omega
      have ne_V_2_1 : ¬ gv = v2.heap.size + 1 := by omega
      have en_V_2_1 : ¬ v2.heap.size + 1 = gv := by omega
      have hl_L_2 := isRow.lt L_2
      have ne_L_2_0 : ¬ lv = v2.heap.size := by omega
      have en_L_2_0 : ¬ v2.heap.size = lv := by omega
      have ne_L_2_1 : ¬ lv = v2.heap.size + 1 := by omega
      have en_L_2_1 : ¬ v2.heap.size + 1 = lv := by omega
      have hl_O_2 := isRow.lt O_2
      have ne_O_2_0 : ¬ ob = v2.heap.size := by omega
      have en_O_2_0 : ¬ v2.heap.size = ob := by omega
      have ne_O_2_1 : ¬ ob = v2.heap.size + 1 := by omega
      have en_O_2_1 : ¬ v2.heap.size + 1 = ob := by omega
      go_wp2_with fail
      refine (HD.out _ (by go_simp) (by go_simp) (by go_simp) (by go_simp)).mono ?_
      rintro e v3 ⟨rfl, ⟨V_3, V_3'⟩, ⟨L_3, L_3'⟩, hA3⟩
      obtain ⟨O_3, O_3'⟩ : Row v3 ob csO := hA3.row ⟨by go_simp, by go_simp⟩ (by omega) (by omega)
      have hB_3 : Below w.heap.size w v3 := hA3.below (by go_simp) (by first | omega | (go_simp; done) | (go_simp; omega)) (by first | omega | (go_simp; done) | (go_simp; omega)) (by first | (go_simp; done) | (go_simp; omega) | exact Below.size (by assumption))
      clear V_2 V_2' L_2 L_2' O_2 O_2' hB_2 hA3
      have hz_3 : w.heap.size ≤ v3.heap.size := hB_3.size
      have hl_V_3 := isRow.lt V_3
      have ne_V_3_0 : ¬ gv = v3.heap.size := by omega
      have en_V_3_0 : ¬ v3.heap.size = gv := by omega
      have ne_V_3_1 : ¬ gv = v3.heap.size + 1 := by omega
      have en_V_3_1 : ¬ v3.heap.size + 1 = gv := by omega
      have hl_L_3 := isRow.lt L_3
      have ne_L_3_0 : ¬ lv = v3.heap.size := by omega
      have en_L_3_0 : ¬ v3.heap.size = lv := by omega
      have ne_L_3_1 : ¬ lv = v3.heap.size + 1 := by omega
      have en_L_3_1 : ¬ v3.heap.size + 1 = lv := by omega
      have hl_O_3 := isRow.lt O_3
      have ne_O_3_0 : ¬ ob = v3.heap.size := by omega
      have en_O_3_0 : ¬ v3.heap.size = ob := by omega
      have ne_O_3_1 : ¬ ob = v3.heap.size + 1 := by omega
      have en_O_3_1 : ¬ v3.heap.size + 1 = ob := by omega
      go_wp2_with fail
      have ne_V_E : ¬ gv = v3.heap.size := by omega
      have en_V_E : ¬ v3.heap.size = gv := by omega
      have ne_L_E : ¬ lv = v3.heap.size := by omega
      have en_L_E : ¬ v3.heap.size = lv := by omega
      have ne_O_E : ¬ ob = v3.heap.size := by omega
      have en_O_E : ¬ v3.heap.size = ob := by omega
      refine (same_c h16 (by go_simp) (by go_simp) hpO hcO (by go_simp) (by go_simp) (Nat.le_refl _)).mono ?_
      rintro e v4 ⟨rfl, hb4⟩
      obtain ⟨V_4, V_4'⟩ : Row v4 gv #[.int .i64 m, .int .i64 p0, .int .i64 p1, .bool o0, .bool o1, .bool true, .int .u32 a, .int .u32 b, .slice (some ⟨lv, 0, none⟩) ys.length ys.length, .int .i64 lost] := Row.step (by go_simp) (by go_simp) hb4
      obtain ⟨L_4, L_4'⟩ : Row v4 lv (FA ys) := Row.step (by go_simp) (by go_simp) hb4
      obtain ⟨O_4, O_4'⟩ : Row v4 ob csO := Row.step (by go_simp) (by go_simp) hb4
      obtain ⟨E_4, E_4'⟩ : Row v4 v3.heap.size #[.bool false, .int .i64 (-1)] := Row.step (by go_simp) (by go_simp) hb4
      have hB_4 : Below w.heap.size w v4 := bk (by go_simp) (by first | (go_simp; done) | (go_simp; omega) | exact Below.size (by assumption)) hb4
      clear V_3 V_3' L_3 L_3' O_3 O_3' hB_3 hb4
      have hz_4 : w.heap.size ≤ v4.heap.size := hB_4.size
      have hl_V_4 := isRow.lt V_4
      have ne_V_4_0 : ¬ gv = v4.heap.size := by omega
      have en_V_4_0 : ¬ v4.heap.size = gv := by omega
      have ne_V_4_1 : ¬ gv = v4.heap.size + 1 := by omega
      have en_V_4_1 : ¬ v4.heap.size + 1 = gv := by omega
      have hl_L_4 := isRow.lt L_4
      have ne_L_4_0 : ¬ lv = v4.heap.size := by omega
      have en_L_4_0 : ¬ v4.heap.size = lv := by omega
      have ne_L_4_1 : ¬ lv = v4.heap.size + 1 := by omega
      have en_L_4_1 : ¬ v4.heap.size + 1 = lv := by omega
      have hl_O_4 := isRow.lt O_4
      have ne_O_4_0 : ¬ ob = v4.heap.size := by omega
      have en_O_4_0 : ¬ v4.heap.size = ob := by omega
      have ne_O_4_1 : ¬ ob = v4.heap.size + 1 := by omega
      have en_O_4_1 : ¬ v4.heap.size + 1 = ob := by omega
      have hl_E_4 := isRow.lt E_4
      have ne_E_4_0 : ¬ v3.heap.size = v4.heap.size := by omega
      have en_E_4_0 : ¬ v4.heap.size = v3.heap.size := by omega
      have ne_E_4_1 : ¬ v3.heap.size = v4.heap.size + 1 := by omega
      have en_E_4_1 : ¬ v4.heap.size + 1 = v3.heap.size := by omega
      go_wp2
      go_ret
      exact ⟨rfl, by go_simp⟩
  · rw [hf] at hF
    have HF := Lib.hid hF
    clear hF
    have hk : (0 : Int) ≤ (k : Int) := by omega
    go_wp2_with fail
    refine (HF.out _ V0 V0' L0 L0').mono ?_
    rintro e v1 ⟨rfl, hb1⟩
    obtain ⟨V_1, V_1'⟩ : Row v1 gv #[.int .i64 m, .int .i64 p0, .int .i64 p1, .bool o0, .bool o1, .bool sp, .int .u32 a, .int .u32 b, .slice (some ⟨lv, 0, none⟩) ys.length ys.length, .int .i64 lost] := Row.step (by go_simp) (by go_simp) hb1
    obtain ⟨L_1, L_1'⟩ : Row v1 lv (FA ys) := Row.step (by go_simp) (by go_simp) hb1
    have hB_1 : Below w.heap.size w v1 := bk (by go_simp) (by first | (go_simp; done) | (go_simp; omega) | exact Below.size (by assumption)) hb1
    clear V0 V0' L0 L0' hB0 hb1
    have hz_1 : w.heap.size ≤ v1.heap.size := hB_1.size
    have hl_V_1 := isRow.lt V_1
    have ne_V_1_0 : ¬ gv = v1.heap.size := by omega
    have en_V_1_0 : ¬ v1.heap.size = gv := by omega
    have ne_V_1_1 : ¬ gv = v1.heap.size + 1 := by omega
    have en_V_1_1 : ¬ v1.heap.size + 1 = gv := by omega
    have hl_L_1 := isRow.lt L_1
    have ne_L_1_0 : ¬ lv = v1.heap.size := by omega
    have en_L_1_0 : ¬ v1.heap.size = lv := by omega
    have ne_L_1_1 : ¬ lv = v1.heap.size + 1 := by omega
    have en_L_1_1 : ¬ v1.heap.size + 1 = lv := by omega
    go_wp2
    go_ret
    exact ⟨rfl, by go_simp⟩
end Go.Proofs.Ytkbaghblchlcnaa.Lr
