/- The law VcpuEnds, walked. -/
import Derived.Test.YtkbaghblchlcnaaE20
namespace Go.Proofs.Ytkbaghblchlcnaa.Lr
open Go.RowKit Go.Shelf Go.Proofs.YtkbaghblchlcnaaW.PrintWords Go.Proofs.Ytkbaghblchlcnaa.IAll
attribute [local go_sem] Oper.semAt_some cell_row frozen_row isRow_setCell_eq rowAt_setCell_same rowAt_setCell_other isRow_alloc_eq rowAt_alloc rowAt_new rowAt_new' isRow_setRow_eq rowAt_setRow_same rowAt_setRow_other isRow_drew rowAt_drew size_setRow_ Lb_size Lb_at blk_ptr aggOf_agg below_alloc_e below_setCell_e below_setRow_e below_refl_e below_drew_r aside2_alloc_e aside2_setCell_e aside2_setRow_e aside2_drew_e aside2_refl_e aside2_drewN_e isRow_drewN rowAt_drewN below_drewN_e le_add_r offv_ptr one_lad zero_lad allOne_nil allOne_cons Value.oneCell' addr_at FA_size one_FA FA_size
attribute [local go_sem ↓] storeI storeC
attribute [local go_sem] eq2i eq2b eq2u
set_option maxRecDepth 100000 in
theorem ended_c (x0 x1 x2 x3 : Int) (x4 : Bool) (x5 : Int) (x6 ok : Bool) (M : Int) (hM : M = if x4 = true then x5 else -1) (w : World) :
    Calls Try.prog 25 #[.agg #[.int .i64 x0, .int .i64 x1, .int .i64 x2, .int .i64 x3, .bool x4, .int .i64 x5, .bool x6], .agg #[.bool ok, .int .i64 M]] w fun e w' => e = .returned (.bool true) ∧ Below w.heap.size w w' := by
  have hB := Below.refl w.heap.size w
  cases x4 with
  | true =>
    obtain rfl : M = x5 := hM
    go_enter Try.func25, Try.ntmps25
    go_wp2
    go_ret
    exact ⟨rfl, by go_simp⟩
  | false =>
    obtain rfl : M = -1 := hM
    go_enter Try.func25, Try.ntmps25
    go_wp2
    go_ret
    exact ⟨rfl, by go_simp⟩
set_option maxRecDepth 100000 in
set_option maxHeartbeats 40000000 in
theorem ends_law (c : Int) (c0 : 0 ≤ c) (m' p0' p1' : Int) (o0' o1' sp' : Bool) (a' b' : Int) (ha : 0 ≤ a') (ha2 : a' ≤ 4294967295) (hb : 0 ≤ b') (hb2 : b' ≤ 4294967295) (w : World) (B : Option Addr) (cB : Nat) (sc : List VA) (hS : ScOk w B sc) (c3 : Int) (c30 : 0 ≤ c3) :
    Calls Try.prog 5 #[.int .u8 c, .agg #[.int .i64 m', .int .i64 p0', .int .i64 p1', .bool o0', .bool o1', .bool sp', .int .u32 a', .int .u32 b'], .slice B sc.length cB, .int .u8 c3] w fun e w' => e = .returned (.bool true) ∧ Below w.heap.size w w' := by
  obtain ⟨n, hn, h1, h2⟩ : ∃ n : Nat, 1 + c % 16 = (n : Int) ∧ 1 ≤ n ∧ n ≤ 16 := ⟨(1 + c % 16).toNat, by omega, by omega, by omega⟩
  have hO := (runA_ok n ⟨m', p0', p1', o0', o1', sp', a', b', List.replicate n z54, 0⟩ sc ⟨List.length_replicate, h2, by omega, rep_st n, Int.le_refl 0, by show (0 : Int) ≤ 4611686018427387904; omega⟩ rfl hS.len) sc.length (Nat.le_refl _)
  have hG := (runA_gd n ⟨m', p0', p1', o0', o1', sp', a', b', List.replicate n z54, 0⟩ sc ⟨List.length_replicate, h2, by omega, rep_st n, Int.le_refl 0, by show (0 : Int) ≤ 4611686018427387904; omega⟩ rfl hS.len (gd_rep n)) sc.length (Nat.le_refl _)
  have hW := (runA_w2 n ⟨m', p0', p1', o0', o1', sp', a', b', List.replicate n z54, 0⟩ sc ⟨⟨ha, ha2⟩, ⟨hb, hb2⟩⟩) sc.length (Nat.le_refl _)
  have HP := Lib.hid (fun (W : World) (h : ScOk W B sc) => played_c n h1 h2 c hn c0 m' p0' p1' o0' o1' sp' a' b' ha ha2 hb hb2 W B cB sc h)
  have HS := Lib.hid hS
  clear hS
  generalize runA n ⟨m', p0', p1', o0', o1', sp', a', b', List.replicate n z54, 0⟩ sc sc.length = s at *
  obtain ⟨⟨hlen, h16, h0, hst, hlo, hhi⟩, -⟩ := hO
  obtain ⟨m, p0, p1, o0, o1, sp, a, b, ys, lost⟩ := s
  simp only at hlen hst hlo hhi hG
  subst hlen
  obtain ⟨gp, hgp1⟩ : ∃ gp : Int, gp = c3 % 2 := ⟨_, rfl⟩
  have hgp : gp = 0 ∨ gp = 1 := by omega
  have hw64 : wrap64 gp = gp := w64 _ (by omega)
  have htm : Int.tmod c3 2 = gp := by rw [hgp1]; exact Int.tmod_eq_emod_of_nonneg c30
  clear hgp1
  go_enter Try.func5, Try.ntmps5
  have hB_0 : Below w.heap.size w w := Below.refl _ _
  go_wp2_with fail
  refine (awake_c _).mono ?_
  rintro e v1 ⟨rfl, hb1⟩
  obtain ⟨F_1, F_1'⟩ : Row v1 w.heap.size #[.int .i64 m', .int .i64 p0', .int .i64 p1', .bool o0', .bool o1', .bool sp', .int .u32 a', .int .u32 b'] := Row.step (by go_simp) (by go_simp) hb1
  have hB_1 : Below w.heap.size w v1 := bk (by go_simp) (by first | (go_simp; done) | (go_simp; omega) | exact Below.size (by assumption)) hb1
  clear hB_0 hb1
  have hz_1 : w.heap.size ≤ v1.heap.size := hB_1.size
  have hl_F_1 := isRow.lt F_1
  have ne_F_1_0 : ¬ w.heap.size = v1.heap.size := by omega
  have en_F_1_0 : ¬ v1.heap.size = w.heap.size := by omega
  have ne_F_1_1 : ¬ w.heap.size = v1.heap.size + 1 := by omega
  have en_F_1_1 : ¬ v1.heap.size + 1 = w.heap.size := by omega
  go_wp2_with fail
  refine (HP.out _ (HS.out.below hB_1)).mono ?_
  rintro e v0 ⟨gv, lv, rfl, hV0, hL0, n12, g1, g2, hb0⟩
  obtain ⟨V0, V0'⟩ : Row v0 gv #[.int .i64 m, .int .i64 p0, .int .i64 p1, .bool o0, .bool o1, .bool sp, .int .u32 a, .int .u32 b, .slice (some ⟨lv, 0, none⟩) ys.length ys.length, .int .i64 lost] := hV0
  obtain ⟨L0, L0'⟩ : Row v0 lv (FA ys) := hL0
  have hB0 : Below w.heap.size w v0 := bk hB_1 hB_1.size hb0
  have gw1 : w.heap.size ≤ gv := Nat.le_trans hB_1.size g1
  have gw2 : w.heap.size ≤ lv := Nat.le_trans hB_1.size g2
  have n21 : ¬ lv = gv := fun e => n12 e.symm
  clear hb0 F_1 F_1' hB_1 HP HS g1 g2 hn h1 h2
  cases hT : ackT m p0 p1 o0 o1 a b ys gp with
  | false =>
    have hA : ∀ W, isRow W gv → rowAt W gv = #[.int .i64 m, .int .i64 p0, .int .i64 p1, .bool o0, .bool o1, .bool sp, .int .u32 a, .int .u32 b, .slice (some ⟨lv, 0, none⟩) ys.length ys.length, .int .i64 lost] → isRow W lv → rowAt W lv = FA ys → Calls Try.prog 17 #[.pointer (some ⟨gv, 0, none⟩), .int .i64 gp] W fun e w' => e = .returned (.int .i64 1023) ∧ Row w' gv #[.int .i64 m, .int .i64 p0, .int .i64 p1, .bool o0, .bool o1, .bool sp, .int .u32 a, .int .u32 b, .slice (some ⟨lv, 0, none⟩) ys.length ys.length, .int .i64 lost] ∧ Row w' lv (FA ys) ∧ Aside2 gv lv W w' := fun W q1 q2 q3 q4 => by
      have q := ack_c gv lv m p0 p1 o0 o1 sp a b ys h16 lost gp n12 W q1 q2 q3 q4
      unfold ackId ackXs ackA ackB at q
      rw [if_neg (by rw [hT]; decide), if_neg (by rw [hT]; decide), if_neg (by rw [hT]; decide), if_neg (by rw [hT]; decide)] at q
      exact q
    have HA := Lib.hid hA
    clear hA hT hG hW hgp
    have hsz1 := isRow.lt V0
    have hsz2 := isRow.lt L0
    have hsz3 := hB0.size
    have ne_V_F : ¬ gv = v0.heap.size := by omega
    have en_V_F : ¬ v0.heap.size = gv := by omega
    have ne_L_F : ¬ lv = v0.heap.size := by omega
    have en_L_F : ¬ v0.heap.size = lv := by omega
    go_upto_region 8 with fail
    go_cut [12, 13] (fun s12 s13 wx => s12 = .pointer (some ⟨v0.heap.size, 0, none⟩) ∧ s13 = .int .i64 lost ∧ (isRow wx gv ∧ rowAt wx gv = #[.int .i64 m, .int .i64 p0, .int .i64 p1, .bool o0, .bool o1, .bool sp, .int .u32 a, .int .u32 b, .slice (some ⟨lv, 0, none⟩) ys.length ys.length, .int .i64 lost]) ∧ (isRow wx lv ∧ rowAt wx lv = FA ys) ∧ (isRow wx v0.heap.size ∧ rowAt wx v0.heap.size = #[.int .i64 m, .int .i64 p0, .int .i64 p1, .bool o0, .bool o1, .bool sp, .int .u32 a, .int .u32 b]) ∧ Below w.heap.size w wx)
    case first =>
      go_region
      all_goals
        go_wp2_with fail
        go_meet
        exact ⟨rfl, rfl, ⟨by go_simp, by go_simp⟩, ⟨by go_simp, by go_simp⟩, ⟨by go_simp, by go_simp⟩, by go_simp⟩
    obtain ⟨rfl, rfl, ⟨VZ, VZ'⟩, ⟨LZ, LZ'⟩, ⟨FZ, FZ'⟩, hBZ⟩ := hcut
    have hsz4 := isRow.lt FZ
    generalize hgF : v0.heap.size = gF at *
    clear hB0 V0 V0' L0 L0' hgF
    have hsz5 := hBZ.size
    go_wp2_with fail
    refine (HA.out _ (by go_simp) (by go_simp) (by go_simp) (by go_simp)).mono ?_
    rintro e v1 ⟨rfl, ⟨V_1, V_1'⟩, ⟨L_1, L_1'⟩, hA1⟩
    obtain ⟨F_1, F_1'⟩ : Row v1 gF #[.int .i64 m, .int .i64 p0, .int .i64 p1, .bool o0, .bool o1, .bool sp, .int .u32 a, .int .u32 b] := hA1.row ⟨by go_simp, by go_simp⟩ (by omega) (by omega)
    have hB_1 : Below w.heap.size w v1 := hA1.below (by go_simp) (by first | omega | (go_simp; done) | (go_simp; omega)) (by first | omega | (go_simp; done) | (go_simp; omega)) (by first | (go_simp; done) | (go_simp; omega) | exact Below.size (by assumption))
    clear VZ VZ' LZ LZ' FZ FZ' hBZ hA1
    have hz_1 : w.heap.size ≤ v1.heap.size := hB_1.size
    have hl_V_1 := isRow.lt V_1
    have ne_V_1_0 : ¬ gv = v1.heap.size := by omega
    have en_V_1_0 : ¬ v1.heap.size = gv := by omega
    have ne_V_1_1 : ¬ gv = v1.heap.size + 1 := by omega
    have en_V_1_1 : ¬ v1.heap.size + 1 = gv := by omega
    have hl_L_1 := isRow.lt L_1
    have ne_L_1_0 : ¬ lv = v1.heap.size := by omega
    have en_L_1_0 : ¬ v1.heap.size = lv := by omega
    have ne_L_1_1 : ¬ lv = v1.heap.size + 1 := by omega
    have en_L_1_1 : ¬ v1.heap.size + 1 = lv := by omega
    have hl_F_1 := isRow.lt F_1
    have ne_F_1_0 : ¬ gF = v1.heap.size := by omega
    have en_F_1_0 : ¬ v1.heap.size = gF := by omega
    have ne_F_1_1 : ¬ gF = v1.heap.size + 1 := by omega
    have en_F_1_1 : ¬ v1.heap.size + 1 = gF := by omega
    go_wp2_with fail
    refine wp_named (fun W_ => (isRow W_ gv ∧ rowAt W_ gv = #[.int .i64 m, .int .i64 p0, .int .i64 p1, .bool o0, .bool o1, .bool sp, .int .u32 a, .int .u32 b, .slice (some ⟨lv, 0, none⟩) ys.length ys.length, .int .i64 lost]) ∧ (isRow W_ lv ∧ rowAt W_ lv = (FA ys)) ∧ (isRow W_ gF ∧ rowAt W_ gF = #[.int .i64 m, .int .i64 p0, .int .i64 p1, .bool o0, .bool o1, .bool sp, .int .u32 a, .int .u32 b]) ∧ Below w.heap.size w W_) (by refine ⟨⟨by go_simp, by go_simp⟩, ⟨by go_simp, by go_simp⟩, ⟨by go_simp, by go_simp⟩, by go_simp⟩) ?_
    rintro v2 ⟨⟨V_2, V_2'⟩, ⟨L_2, L_2'⟩, ⟨F_2, F_2'⟩, hB_2⟩
    clear V_1 V_1' L_1 L_1' F_1 F_1' hB_1
    have hz_2 : w.heap.size ≤ v2.heap.size := hB_2.size
    have hl_V_2 := isRow.lt V_2
    have ne_V_2_0 : ¬ gv = v2.heap.size := by omega
    have en_V_2_0 : ¬ v2.heap.size = gv := by omega
    have ne_V_2_1 : ¬ gv = v2.heap.size + 1 := by omega
    have en_V_2_1 : ¬ v2.heap.size + 1 = gv := by omega
    have hl_L_2 := isRow.lt L_2
    have ne_L_2_0 : ¬ lv = v2.heap.size := by omega
    have en_L_2_0 : ¬ v2.heap.size = lv := by omega
    have ne_L_2_1 : ¬ lv = v2.heap.size + 1 := by omega
    have en_L_2_1 : ¬ v2.heap.size + 1 = lv := by omega
    have hl_F_2 := isRow.lt F_2
    have ne_F_2_0 : ¬ gF = v2.heap.size := by omega
    have en_F_2_0 : ¬ v2.heap.size = gF := by omega
    have ne_F_2_1 : ¬ gF = v2.heap.size + 1 := by omega
    have en_F_2_1 : ¬ v2.heap.size + 1 = gF := by omega
    refine wp_region_held_drew (S := fun w' => isRow w' gv ∧ rowAt w' gv = #[.int .i64 m, .int .i64 p0, .int .i64 p1, .bool o0, .bool o1, .bool sp, .int .u32 a, .int .u32 b, .slice (some ⟨lv, 0, none⟩) ys.length ys.length, .int .i64 lost] ∧ isRow w' lv ∧ rowAt w' lv = (FA ys) ∧ isRow w' gF ∧ rowAt w' gF = #[.int .i64 m, .int .i64 p0, .int .i64 p1, .bool o0, .bool o1, .bool sp, .int .u32 a, .int .u32 b] ∧ Below w.heap.size w w') (by kernel_rfl) ⟨V_2, V_2', L_2, L_2', F_2, F_2', below_drew0 hB_2⟩ (fun hHeld => ?_)
    refine tk 0 ⟨some 48, .move (.tmp 10), 24, "law.go:215", #[], none⟩ ?_ ?_ ?_
    rotate_left
    · (intro w_ hS_; (try dsimp only at hS_); go_simp; try with_reducible rfl)
    try simp only [Act.put, List.setIfInBounds_toArray, List.set_cons_zero, List.set_cons_succ]
    refine tk 1 ⟨some 49, .nilCheck (.tmp 48), 0, "law.go:215", #[⟨0, .data⟩], none⟩ ?_ ?_ ?_
    rotate_left
    · (intro w_ hS_; (try dsimp only at hS_); go_simp; try with_reducible rfl)
    try simp only [Act.put, List.setIfInBounds_toArray, List.set_cons_zero, List.set_cons_succ]
    refine tk 2 ⟨some 50, .fieldAddr 37 (.tmp 49) 0, 0, "law.go:215", #[⟨1, .data⟩], none⟩ ?_ ?_ ?_
    rotate_left
    · (intro w_ hS_; (try dsimp only at hS_); go_simp; try with_reducible rfl)
    try simp only [Act.put, List.setIfInBounds_toArray, List.set_cons_zero, List.set_cons_succ]
    refine tk 3 ⟨some 51, .load 35 (.tmp 50), 35, "law.go:215", #[⟨2, .data⟩], none⟩ ?_ ?_ ?_
    rotate_left
    · (intro w_ hS_; (try dsimp only at hS_); go_simp; try with_reducible rfl)
    try simp only [Act.put, List.setIfInBounds_toArray, List.set_cons_zero, List.set_cons_succ]
    refine tk 4 ⟨some 52, .load 35 (.tmp 12), 35, "law.go:215", #[], none⟩ ?_ ?_ ?_
    rotate_left
    · (intro w_ hS_; (try dsimp only at hS_); go_simp; try with_reducible rfl)
    try simp only [Act.put, List.setIfInBounds_toArray, List.set_cons_zero, List.set_cons_succ]
    refine tk 5 ⟨some 53, .binOp .eql 35 (.tmp 51) (.tmp 52) 35, 4, "law.go:215", #[⟨3, .data⟩, ⟨4, .data⟩], none⟩ ?_ ?_ ?_
    rotate_left
    · (intro w_ hS_; (try dsimp only at hS_); go_simp; try with_reducible rfl)
    try simp only [Act.put, List.setIfInBounds_toArray, List.set_cons_zero, List.set_cons_succ]
    refine tk 6 ⟨some 8, .assign (.tmp 53), 4, "law.go:215", #[⟨5, .data⟩, ⟨0, .phase⟩, ⟨1, .phase⟩, ⟨2, .phase⟩, ⟨3, .phase⟩, ⟨4, .phase⟩, ⟨5, .phase⟩], none⟩ ?_ ?_ ?_
    rotate_left
    · (intro w_ hS_; (try dsimp only at hS_); go_simp; try with_reducible rfl)
    try simp only [Act.put, List.setIfInBounds_toArray, List.set_cons_zero, List.set_cons_succ]
    refine wpAnyH_done (by kernel_rfl) ?_ _
    (try dsimp only at hHeld)
    go_split_ands
    go_wp2
    go_ret
    exact ⟨rfl, by go_simp⟩
  | true =>
    obtain ⟨k, hf, hk, q0, q1, hokn, hpr⟩ := ends_k hG hT
    have hre := real_ok hokn
    obtain ⟨-, -, hnum, hpr0, hpr1, -, hpr8, -⟩ := hokn
    rw [hpr] at hpr0 hpr1 hpr8
    rw [q1] at hre hnum
    have hn1023 : ¬ (best ys).id = 1023 := by omega
    have hn1023' : ((best ys).id == 1023) = false := nbeq hn1023
    clear hpr hn1023 hnum
    generalize hbe : (best ys).id = id at *
    have hid1023 := hn1023'
    cases sp with
    | true =>
      by_cases hid : 8192 ≤ id
      · skip
        have hA : ∀ W, isRow W gv → rowAt W gv = #[.int .i64 m, .int .i64 p0, .int .i64 p1, .bool o0, .bool o1, .bool true, .int .u32 a, .int .u32 b, .slice (some ⟨lv, 0, none⟩) ys.length ys.length, .int .i64 lost] → isRow W lv → rowAt W lv = FA ys → Calls Try.prog 17 #[.pointer (some ⟨gv, 0, none⟩), .int .i64 gp] W fun e w' => e = .returned (.int .i64 id) ∧ Row w' gv #[.int .i64 m, .int .i64 p0, .int .i64 p1, .bool o0, .bool o1, .bool true, .int .u32 (setA .or a gp (levP p0 p1 (best ys).pr gp)), .int .u32 (setB .or b gp (levP p0 p1 (best ys).pr gp)), .slice (some ⟨lv, 0, none⟩) ys.length ys.length, .int .i64 lost] ∧ Row w' lv (FA (setSt ys k 0)) ∧ Aside2 gv lv W w' := fun W q1 q2 q3 q4 => by
          have q := ack_c gv lv m p0 p1 o0 o1 true a b ys h16 lost gp n12 W q1 q2 q3 q4
          unfold ackId ackXs ackA ackB at q
          rw [hbe] at q
          rw [if_pos hT, if_pos hT, if_pos hT, if_pos hT, hf, Int.toNat_natCast, if_pos hid] at q
          exact q
        obtain ⟨hd1, hd2, hd3⟩ := ends_lad hW.a hW.b hT hpr0 hpr1 hpr8 hgp
        have hl1 : ((setSt ys k 0)).length = ys.length := setSt_length _ _ _
        have hst1 : stOk (setSt ys k 0) := stOk_set hst k 0 (by decide)
        have hf1 : findOf (setSt ys k 0) id = -1 := find_gone hG.uq hk (by rw [q0]; decide) q1
        obtain ⟨he1, he2, he3, he4⟩ := end_hi hf1 hid lost
        have hf2 := hf1
        have hl2 := hl1
        have hE : ∀ W, isRow W gv → rowAt W gv = #[.int .i64 m, .int .i64 p0, .int .i64 p1, .bool o0, .bool o1, .bool true, .int .u32 (setA .or a gp (levP p0 p1 (best ys).pr gp)), .int .u32 (setB .or b gp (levP p0 p1 (best ys).pr gp)), .slice (some ⟨lv, 0, none⟩) ys.length ys.length, .int .i64 lost] → isRow W lv → rowAt W lv = FA (setSt ys k 0) → Calls Try.prog 23 #[.pointer (some ⟨gv, 0, none⟩), .int .i64 gp, .int .i64 id] W fun e w' => e = .returned (.agg #[.bool false, .int .i64 (-1)]) ∧ Row w' gv #[.int .i64 m, .int .i64 p0, .int .i64 p1, .bool o0, .bool o1, .bool true, .int .u32 a, .int .u32 b, .slice (some ⟨lv, 0, none⟩) ys.length ys.length, .int .i64 lost] ∧ Row w' lv (FA (setSt ys k 0)) ∧ Aside2 gv lv W w' := fun W q1 q2 q3 q4 => by
          have q := eoi_c gv lv m p0 p1 o0 o1 true (setA .or a gp (levP p0 p1 (best ys).pr gp)) (setB .or b gp (levP p0 p1 (best ys).pr gp)) (setSt ys k 0) (by rw [hl1]; exact h16) hst1 lost gp id hlo hhi n12 W q1 (by rw [hl1]; exact q2) q3 q4
          unfold eoiGo eoiA eoiB gOk gM gXs gLost at q
          rw [hl1, hre, hd1, hd2, hd3] at q
          exact q
        have hD : ∀ W, isRow W gv → rowAt W gv = #[.int .i64 m, .int .i64 p0, .int .i64 p1, .bool o0, .bool o1, .bool true, .int .u32 a, .int .u32 b, .slice (some ⟨lv, 0, none⟩) ys.length ys.length, .int .i64 lost] → isRow W lv → rowAt W lv = FA (setSt ys k 0) → Calls Try.prog 24 #[.pointer (some ⟨gv, 0, none⟩), .int .i64 id] W fun e w' => e = .returned (.agg #[.bool false, .int .i64 (-1)]) ∧ Row w' gv #[.int .i64 m, .int .i64 p0, .int .i64 p1, .bool o0, .bool o1, .bool true, .int .u32 a, .int .u32 b, .slice (some ⟨lv, 0, none⟩) ys.length ys.length, .int .i64 lost] ∧ Row w' lv (FA (setSt ys k 0)) ∧ Aside2 gv lv W w' := fun W q1 q2 q3 q4 => by
          have q := dir_c gv lv m p0 p1 o0 o1 true a b (setSt ys k 0) (by rw [hl1]; exact h16) hst1 lost id hlo hhi n12 W q1 (by rw [hl1]; exact q2) q3 q4
          unfold dirGo gOk gM gXs gLost at q
          rw [hl1, hre] at q
          simp only [Bool.and_self, if_true] at q
          rw [he1, he2, he3, he4] at q
          exact q
        have HF1 := Lib.hid (fun (W : World) (h : isRow W lv) (h' : rowAt W lv = FA (setSt ys k 0)) => find_n hl1 h16 h h' hf1)
        have HF2 := Lib.hid (fun (W : World) (h : isRow W lv) (h' : rowAt W lv = FA (setSt ys k 0)) => find_n hl2 h16 h h' hf2)
        have HA := Lib.hid hA
        have HE := Lib.hid hE
        have HD := Lib.hid hD
        generalize hA2 : (setA .or a gp (levP p0 p1 (best ys).pr gp)) = a2 at *
        generalize hB2 : (setB .or b gp (levP p0 p1 (best ys).pr gp)) = b2 at *
        clear hA hE hd1 hd2 hd3 hA2 hB2 he1 he2 he3 he4 hf1 hf2 hst1 hT hf hG hW hgp hre hl1 hl2 hpr0 hpr1 hpr8 hbe
        clear hD
        have hid1 : decide (id < 8192) = false := decide_eq_false (by omega)
        have hid2 : decide (8192 ≤ id) = true := decide_eq_true hid
        clear q0 q1
        have hsz1 := isRow.lt V0
        have hsz2 := isRow.lt L0
        have hsz3 := hB0.size
        have ne_V_F : ¬ gv = v0.heap.size := by omega
        have en_V_F : ¬ v0.heap.size = gv := by omega
        have ne_L_F : ¬ lv = v0.heap.size := by omega
        have en_L_F : ¬ v0.heap.size = lv := by omega
        go_upto_region 8 with fail
        go_cut [12, 13] (fun s12 s13 wx => s12 = .pointer (some ⟨v0.heap.size, 0, none⟩) ∧ s13 = .int .i64 lost ∧ (isRow wx gv ∧ rowAt wx gv = #[.int .i64 m, .int .i64 p0, .int .i64 p1, .bool o0, .bool o1, .bool true, .int .u32 a, .int .u32 b, .slice (some ⟨lv, 0, none⟩) ys.length ys.length, .int .i64 lost]) ∧ (isRow wx lv ∧ rowAt wx lv = FA ys) ∧ (isRow wx v0.heap.size ∧ rowAt wx v0.heap.size = #[.int .i64 m, .int .i64 p0, .int .i64 p1, .bool o0, .bool o1, .bool true, .int .u32 a, .int .u32 b]) ∧ Below w.heap.size w wx)
        case first =>
          go_region
          all_goals
            go_wp2_with fail
            go_meet
            exact ⟨rfl, rfl, ⟨by go_simp, by go_simp⟩, ⟨by go_simp, by go_simp⟩, ⟨by go_simp, by go_simp⟩, by go_simp⟩
        obtain ⟨rfl, rfl, ⟨VZ, VZ'⟩, ⟨LZ, LZ'⟩, ⟨FZ, FZ'⟩, hBZ⟩ := hcut
        have hsz4 := isRow.lt FZ
        generalize hgF : v0.heap.size = gF at *
        clear hB0 V0 V0' L0 L0' hgF
        have hsz5 := hBZ.size
        go_wp2_with fail
        refine (HA.out _ (by go_simp) (by go_simp) (by go_simp) (by go_simp)).mono ?_
        rintro e v1 ⟨rfl, ⟨V_1, V_1'⟩, ⟨L_1, L_1'⟩, hA1⟩
        obtain ⟨F_1, F_1'⟩ : Row v1 gF #[.int .i64 m, .int .i64 p0, .int .i64 p1, .bool o0, .bool o1, .bool true, .int .u32 a, .int .u32 b] := hA1.row ⟨by go_simp, by go_simp⟩ (by omega) (by omega)
        have hB_1 : Below w.heap.size w v1 := hA1.below (by go_simp) (by first | omega | (go_simp; done) | (go_simp; omega)) (by first | omega | (go_simp; done) | (go_simp; omega)) (by first | (go_simp; done) | (go_simp; omega) | exact Below.size (by assumption))
        clear VZ VZ' LZ LZ' FZ FZ' hBZ hA1
        have hz_1 : w.heap.size ≤ v1.heap.size := hB_1.size
        have hl_V_1 := isRow.lt V_1
        have ne_V_1_0 : ¬ gv = v1.heap.size := by omega
        have en_V_1_0 : ¬ v1.heap.size = gv := by omega
        have ne_V_1_1 : ¬ gv = v1.heap.size + 1 := by omega
        have en_V_1_1 : ¬ v1.heap.size + 1 = gv := by omega
        have hl_L_1 := isRow.lt L_1
        have ne_L_1_0 : ¬ lv = v1.heap.size := by omega
        have en_L_1_0 : ¬ v1.heap.size = lv := by omega
        have ne_L_1_1 : ¬ lv = v1.heap.size + 1 := by omega
        have en_L_1_1 : ¬ v1.heap.size + 1 = lv := by omega
        have hl_F_1 := isRow.lt F_1
        have ne_F_1_0 : ¬ gF = v1.heap.size := by omega
        have en_F_1_0 : ¬ v1.heap.size = gF := by omega
        have ne_F_1_1 : ¬ gF = v1.heap.size + 1 := by omega
        have en_F_1_1 : ¬ v1.heap.size + 1 = gF := by omega
        go_wp2_with fail
        refine (HF1.out _ (by go_simp) (by go_simp)).mono ?_
        rintro e v2 ⟨rfl, hb2⟩
        obtain ⟨V_2, V_2'⟩ : Row v2 gv #[.int .i64 m, .int .i64 p0, .int .i64 p1, .bool o0, .bool o1, .bool true, .int .u32 a2, .int .u32 b2, .slice (some ⟨lv, 0, none⟩) ys.length ys.length, .int .i64 lost] := Row.step (by go_simp) (by go_simp) hb2
        obtain ⟨L_2, L_2'⟩ : Row v2 lv (FA (setSt ys k 0)) := Row.step (by go_simp) (by go_simp) hb2
        obtain ⟨F_2, F_2'⟩ : Row v2 gF #[.int .i64 m, .int .i64 p0, .int .i64 p1, .bool o0, .bool o1, .bool true, .int .u32 a, .int .u32 b] := Row.step (by go_simp) (by go_simp) hb2
        have hB_2 : Below w.heap.size w v2 := bk (by go_simp) (by first | (go_simp; done) | (go_simp; omega) | exact Below.size (by assumption)) hb2
        clear V_1 V_1' L_1 L_1' F_1 F_1' hB_1 hb2
        have hz_2 : w.heap.size ≤ v2.heap.size := hB_2.size
        have hl_V_2 := isRow.lt V_2
        have ne_V_2_0 : ¬ gv = v2.heap.size := by omega
        have en_V_2_0 : ¬ v2.heap.size = gv := by omega
        have ne_V_2_1 : ¬ gv = v2.heap.size + 1 := by omega
        have en_V_2_1 : ¬ v2.heap.size + 1 = gv := by omega
        have hl_L_2 := isRow.lt L_2
        have ne_L_2_0 : ¬ lv = v2.heap.size := by omega
        have en_L_2_0 : ¬ v2.heap.size = lv := by omega
        have ne_L_2_1 : ¬ lv = v2.heap.size + 1 := by omega
        have en_L_2_1 : ¬ v2.heap.size + 1 = lv := by omega
        have hl_F_2 := isRow.lt F_2
        have ne_F_2_0 : ¬ gF = v2.heap.size := by omega
        have en_F_2_0 : ¬ v2.heap.size = gF := by omega
        have ne_F_2_1 : ¬ gF = v2.heap.size + 1 := by omega
        have en_F_2_1 : ¬ v2.heap.size + 1 = gF := by omega
        go_wp2_with fail
        refine (HE.out _ (by go_simp) (by go_simp) (by go_simp) (by go_simp)).mono ?_
        rintro e v3 ⟨rfl, ⟨V_3, V_3'⟩, ⟨L_3, L_3'⟩, hA3⟩
        obtain ⟨F_3, F_3'⟩ : Row v3 gF #[.int .i64 m, .int .i64 p0, .int .i64 p1, .bool o0, .bool o1, .bool true, .int .u32 a, .int .u32 b] := hA3.row ⟨by go_simp, by go_simp⟩ (by omega) (by omega)
        have hB_3 : Below w.heap.size w v3 := hA3.below (by go_simp) (by first | omega | (go_simp; done) | (go_simp; omega)) (by first | omega | (go_simp; done) | (go_simp; omega)) (by first | (go_simp; done) | (go_simp; omega) | exact Below.size (by assumption))
        clear V_2 V_2' L_2 L_2' F_2 F_2' hB_2 hA3
        have hz_3 : w.heap.size ≤ v3.heap.size := hB_3.size
        have hl_V_3 := isRow.lt V_3
        have ne_V_3_0 : ¬ gv = v3.heap.size := by omega
        have en_V_3_0 : ¬ v3.heap.size = gv := by omega
        have ne_V_3_1 : ¬ gv = v3.heap.size + 1 := by omega
        have en_V_3_1 : ¬ v3.heap.size + 1 = gv := by omega
        have hl_L_3 := isRow.lt L_3
        have ne_L_3_0 : ¬ lv = v3.heap.size := by omega
        have en_L_3_0 : ¬ v3.heap.size = lv := by omega
        have ne_L_3_1 : ¬ lv = v3.heap.size + 1 := by omega
        have en_L_3_1 : ¬ v3.heap.size + 1 = lv := by omega
        have hl_F_3 := isRow.lt F_3
        have ne_F_3_0 : ¬ gF = v3.heap.size := by omega
        have en_F_3_0 : ¬ v3.heap.size = gF := by omega
        have ne_F_3_1 : ¬ gF = v3.heap.size + 1 := by omega
        have en_F_3_1 : ¬ v3.heap.size + 1 = gF := by omega
        go_wp2_with fail
        have ne_V_E1 : ¬ gv = v3.heap.size := by omega
        have en_V_E1 : ¬ v3.heap.size = gv := by omega
        have ne_L_E1 : ¬ lv = v3.heap.size := by omega
        have en_L_E1 : ¬ v3.heap.size = lv := by omega
        have ne_F_E1 : ¬ gF = v3.heap.size := by omega
        have en_F_E1 : ¬ v3.heap.size = gF := by omega
        refine wp_named (fun W_ => (isRow W_ gv ∧ rowAt W_ gv = #[.int .i64 m, .int .i64 p0, .int .i64 p1, .bool o0, .bool o1, .bool true, .int .u32 a, .int .u32 b, .slice (some ⟨lv, 0, none⟩) ys.length ys.length, .int .i64 lost]) ∧ (isRow W_ lv ∧ rowAt W_ lv = (FA (setSt ys k 0))) ∧ (isRow W_ gF ∧ rowAt W_ gF = #[.int .i64 m, .int .i64 p0, .int .i64 p1, .bool o0, .bool o1, .bool true, .int .u32 a, .int .u32 b]) ∧ (isRow W_ v3.heap.size ∧ rowAt W_ v3.heap.size = #[.bool false, .int .i64 (-1)]) ∧ Below w.heap.size w W_) (by refine ⟨⟨by go_simp, by go_simp⟩, ⟨by go_simp, by go_simp⟩, ⟨by go_simp, by go_simp⟩, ⟨by go_simp, by go_simp⟩, by go_simp⟩) ?_
        rintro v4 ⟨⟨V_4, V_4'⟩, ⟨L_4, L_4'⟩, ⟨F_4, F_4'⟩, ⟨E1_4, E1_4'⟩, hB_4⟩
        clear V_3 V_3' L_3 L_3' F_3 F_3' hB_3
        have hz_4 : w.heap.size ≤ v4.heap.size := hB_4.size
        have hl_V_4 := isRow.lt V_4
        have ne_V_4_0 : ¬ gv = v4.heap.size := by omega
        have en_V_4_0 : ¬ v4.heap.size = gv := by omega
        have ne_V_4_1 : ¬ gv = v4.heap.size + 1 := by omega
        have en_V_4_1 : ¬ v4.heap.size + 1 = gv := by omega
        have hl_L_4 := isRow.lt L_4
        have ne_L_4_0 : ¬ lv = v4.heap.size := by omega
        have en_L_4_0 : ¬ v4.heap.size = lv := by omega
        have ne_L_4_1 : ¬ lv = v4.heap.size + 1 := by omega
        have en_L_4_1 : ¬ v4.heap.size + 1 = lv := by omega
        have hl_F_4 := isRow.lt F_4
        have ne_F_4_0 : ¬ gF = v4.heap.size := by omega
        have en_F_4_0 : ¬ v4.heap.size = gF := by omega
        have ne_F_4_1 : ¬ gF = v4.heap.size + 1 := by omega
        have en_F_4_1 : ¬ v4.heap.size + 1 = gF := by omega
        have hl_E1_4 := isRow.lt E1_4
        have ne_E1_4_0 : ¬ v3.heap.size = v4.heap.size := by omega
        have en_E1_4_0 : ¬ v4.heap.size = v3.heap.size := by omega
        have ne_E1_4_1 : ¬ v3.heap.size = v4.heap.size + 1 := by omega
        have en_E1_4_1 : ¬ v4.heap.size + 1 = v3.heap.size := by omega
        refine wp_region_held_drew (S := fun w' => isRow w' gv ∧ rowAt w' gv = #[.int .i64 m, .int .i64 p0, .int .i64 p1, .bool o0, .bool o1, .bool true, .int .u32 a, .int .u32 b, .slice (some ⟨lv, 0, none⟩) ys.length ys.length, .int .i64 lost] ∧ isRow w' lv ∧ rowAt w' lv = (FA (setSt ys k 0)) ∧ isRow w' gF ∧ rowAt w' gF = #[.int .i64 m, .int .i64 p0, .int .i64 p1, .bool o0, .bool o1, .bool true, .int .u32 a, .int .u32 b] ∧ isRow w' v3.heap.size ∧ rowAt w' v3.heap.size = #[.bool false, .int .i64 (-1)] ∧ Below w.heap.size w w') (by kernel_rfl) ⟨V_4, V_4', L_4, L_4', F_4, F_4', E1_4, E1_4', below_drew0 hB_4⟩ (fun hHeld => ?_)
        refine tk 0 ⟨some 69, .fieldAddr 57 (.tmp 16) 0, 0, "law.go:220", #[], none⟩ ?_ ?_ ?_
        rotate_left
        · (intro w_ hS_; (try dsimp only at hS_); go_simp; try with_reducible rfl)
        try simp only [Act.put, List.setIfInBounds_toArray, List.set_cons_zero, List.set_cons_succ]
        refine tk 1 ⟨some 70, .load 4 (.tmp 69), 4, "law.go:220", #[⟨0, .data⟩], none⟩ ?_ ?_ ?_
        rotate_left
        · (intro w_ hS_; (try dsimp only at hS_); go_simp; try with_reducible rfl)
        try simp only [Act.put, List.setIfInBounds_toArray, List.set_cons_zero, List.set_cons_succ]
        refine tk 2 ⟨some 71, .move (.tmp 70), 4, "law.go:220", #[⟨1, .data⟩], none⟩ ?_ ?_ ?_
        rotate_left
        · (intro w_ hS_; (try dsimp only at hS_); go_simp; try with_reducible rfl)
        try simp only [Act.put, List.setIfInBounds_toArray, List.set_cons_zero, List.set_cons_succ]
        refine tk 3 ⟨some 72, .move (.tmp 10), 24, "law.go:220", #[⟨2, .guard⟩], some (2, false)⟩ ?_ ?_ ?_
        rotate_left
        · (intro w_ hS_; (try dsimp only at hS_); go_simp; try with_reducible rfl)
        try simp only [Act.put, List.setIfInBounds_toArray, List.set_cons_zero, List.set_cons_succ]
        refine tk 4 ⟨some 73, .nilCheck (.tmp 72), 0, "law.go:220", #[⟨3, .data⟩, ⟨2, .guard⟩], some (2, false)⟩ ?_ ?_ ?_
        rotate_left
        · (intro w_ hS_; (try dsimp only at hS_); go_simp; try with_reducible rfl)
        try simp only [Act.put, List.setIfInBounds_toArray, List.set_cons_zero, List.set_cons_succ]
        refine tk 5 ⟨some 74, .fieldAddr 37 (.tmp 73) 0, 0, "law.go:220", #[⟨4, .data⟩, ⟨2, .guard⟩], some (2, false)⟩ ?_ ?_ ?_
        rotate_left
        · (intro w_ hS_; (try dsimp only at hS_); go_simp; try with_reducible rfl)
        try simp only [Act.put, List.setIfInBounds_toArray, List.set_cons_zero, List.set_cons_succ]
        refine tk 6 ⟨some 75, .load 35 (.tmp 74), 35, "law.go:220", #[⟨5, .data⟩, ⟨2, .guard⟩], some (2, false)⟩ ?_ ?_ ?_
        rotate_left
        · (intro w_ hS_; (try dsimp only at hS_); go_simp; try with_reducible rfl)
        try simp only [Act.put, List.setIfInBounds_toArray, List.set_cons_zero, List.set_cons_succ]
        refine tk 7 ⟨some 76, .load 35 (.tmp 12), 35, "law.go:220", #[⟨2, .guard⟩], some (2, false)⟩ ?_ ?_ ?_
        rotate_left
        · (intro w_ hS_; (try dsimp only at hS_); go_simp; try with_reducible rfl)
        try simp only [Act.put, List.setIfInBounds_toArray, List.set_cons_zero, List.set_cons_succ]
        refine tk 8 ⟨some 77, .binOp .neq 35 (.tmp 75) (.tmp 76) 35, 4, "law.go:220", #[⟨6, .data⟩, ⟨7, .data⟩, ⟨2, .guard⟩], some (2, false)⟩ ?_ ?_ ?_
        rotate_left
        · (intro w_ hS_; (try dsimp only at hS_); go_simp; try with_reducible rfl)
        try simp only [Act.put, List.setIfInBounds_toArray, List.set_cons_zero, List.set_cons_succ]
        refine tk 9 ⟨some 78, .pick (.tmp 71) (.const (.bool true)) (.tmp 77), 4, "law.go:220", #[⟨2, .data⟩, ⟨8, .data⟩], none⟩ ?_ ?_ ?_
        rotate_left
        · (intro w_ hS_; (try dsimp only at hS_); go_simp; try with_reducible rfl)
        try simp only [Act.put, List.setIfInBounds_toArray, List.set_cons_zero, List.set_cons_succ]
        refine tk 10 ⟨some 79, .move (.tmp 78), 4, "law.go:220", #[⟨9, .data⟩, ⟨2, .chain⟩], none⟩ ?_ ?_ ?_
        rotate_left
        · (intro w_ hS_; (try dsimp only at hS_); go_simp; try with_reducible rfl)
        try simp only [Act.put, List.setIfInBounds_toArray, List.set_cons_zero, List.set_cons_succ]
        refine tk 11 ⟨some 80, .move (.tmp 14), 3, "law.go:220", #[⟨10, .guard⟩], some (10, false)⟩ ?_ ?_ ?_
        rotate_left
        · (intro w_ hS_; (try dsimp only at hS_); go_simp; try with_reducible rfl)
        try simp only [Act.put, List.setIfInBounds_toArray, List.set_cons_zero, List.set_cons_succ]
        refine tk 12 ⟨some 81, .binOp .lss 3 (.tmp 80) (.const (.int .i64 8192)) 3, 4, "law.go:220", #[⟨11, .data⟩, ⟨10, .guard⟩], some (10, false)⟩ ?_ ?_ ?_
        rotate_left
        · (intro w_ hS_; (try dsimp only at hS_); go_simp; try with_reducible rfl)
        try simp only [Act.put, List.setIfInBounds_toArray, List.set_cons_zero, List.set_cons_succ]
        refine tk 13 ⟨some 82, .move (.tmp 81), 4, "law.go:220", #[⟨12, .data⟩, ⟨10, .chain⟩, ⟨10, .guard⟩], some (10, false)⟩ ?_ ?_ ?_
        rotate_left
        · (intro w_ hS_; (try dsimp only at hS_); go_simp; try with_reducible rfl)
        try simp only [Act.put, List.setIfInBounds_toArray, List.set_cons_zero, List.set_cons_succ]
        refine tu 14 ⟨some 83, .move (.tmp 15), 3, "law.go:220", #[⟨13, .guard⟩], some (13, true)⟩ ?_
        try simp only [Act.put, List.setIfInBounds_toArray, List.set_cons_zero, List.set_cons_succ]
        refine tu 15 ⟨some 84, .binOp .lss 3 (.tmp 83) (.const (.int .i64 0)) 3, 4, "law.go:220", #[⟨14, .data⟩, ⟨13, .guard⟩], some (13, true)⟩ ?_
        try simp only [Act.put, List.setIfInBounds_toArray, List.set_cons_zero, List.set_cons_succ]
        refine tk 16 ⟨some 85, .pick (.tmp 82) (.tmp 84) (.const (.bool false)), 4, "law.go:220", #[⟨13, .data⟩, ⟨15, .data⟩, ⟨10, .guard⟩], some (10, false)⟩ ?_ ?_ ?_
        rotate_left
        · (intro w_ hS_; (try dsimp only at hS_); go_simp; try with_reducible rfl)
        try simp only [Act.put, List.setIfInBounds_toArray, List.set_cons_zero, List.set_cons_succ]
        refine tk 17 ⟨some 86, .pick (.tmp 79) (.const (.bool true)) (.tmp 85), 4, "law.go:220", #[⟨10, .data⟩, ⟨16, .data⟩], none⟩ ?_ ?_ ?_
        rotate_left
        · (intro w_ hS_; (try dsimp only at hS_); go_simp; try with_reducible rfl)
        try simp only [Act.put, List.setIfInBounds_toArray, List.set_cons_zero, List.set_cons_succ]
        refine wpAnyH_done (by kernel_rfl) ?_ _
        (try dsimp only at hHeld)
        go_split_ands
        go_wp2_with fail
        refine (HD.out _ (by go_simp) (by go_simp) (by go_simp) (by go_simp)).mono ?_
        rintro e v5 ⟨rfl, ⟨V_5, V_5'⟩, ⟨L_5, L_5'⟩, hA5⟩
        obtain ⟨F_5, F_5'⟩ : Row v5 gF #[.int .i64 m, .int .i64 p0, .int .i64 p1, .bool o0, .bool o1, .bool true, .int .u32 a, .int .u32 b] := hA5.row ⟨by go_simp, by go_simp⟩ (by omega) (by omega)
        obtain ⟨E1_5, E1_5'⟩ : Row v5 v3.heap.size #[.bool false, .int .i64 (-1)] := hA5.row ⟨by go_simp, by go_simp⟩ (by omega) (by omega)
        have hB_5 : Below w.heap.size w v5 := hA5.below (by go_simp) (by first | omega | (go_simp; done) | (go_simp; omega)) (by first | omega | (go_simp; done) | (go_simp; omega)) (by first | (go_simp; done) | (go_simp; omega) | exact Below.size (by assumption))
        clear  hA5
        have hz_5 : w.heap.size ≤ v5.heap.size := hB_5.size
        have hl_V_5 := isRow.lt V_5
        have ne_V_5_0 : ¬ gv = v5.heap.size := by omega
        have en_V_5_0 : ¬ v5.heap.size = gv := by omega
        have ne_V_5_1 : ¬ gv = v5.heap.size + 1 := by omega
        have en_V_5_1 : ¬ v5.heap.size + 1 = gv := by omega
        have hl_L_5 := isRow.lt L_5
        have ne_L_5_0 : ¬ lv = v5.heap.size := by omega
        have en_L_5_0 : ¬ v5.heap.size = lv := by omega
        have ne_L_5_1 : ¬ lv = v5.heap.size + 1 := by omega
        have en_L_5_1 : ¬ v5.heap.size + 1 = lv := by omega
        have hl_F_5 := isRow.lt F_5
        have ne_F_5_0 : ¬ gF = v5.heap.size := by omega
        have en_F_5_0 : ¬ v5.heap.size = gF := by omega
        have ne_F_5_1 : ¬ gF = v5.heap.size + 1 := by omega
        have en_F_5_1 : ¬ v5.heap.size + 1 = gF := by omega
        have hl_E1_5 := isRow.lt E1_5
        have ne_E1_5_0 : ¬ v3.heap.size = v5.heap.size := by omega
        have en_E1_5_0 : ¬ v5.heap.size = v3.heap.size := by omega
        have ne_E1_5_1 : ¬ v3.heap.size = v5.heap.size + 1 := by omega
        have en_E1_5_1 : ¬ v5.heap.size + 1 = v3.heap.size := by omega
        go_wp2_with fail
        have ne_V_E2 : ¬ gv = v5.heap.size := by omega
        have en_V_E2 : ¬ v5.heap.size = gv := by omega
        have ne_L_E2 : ¬ lv = v5.heap.size := by omega
        have en_L_E2 : ¬ v5.heap.size = lv := by omega
        have ne_F_E2 : ¬ gF = v5.heap.size := by omega
        have en_F_E2 : ¬ v5.heap.size = gF := by omega
        have ne_E1_E2 : ¬ v3.heap.size = v5.heap.size := by omega
        have en_E1_E2 : ¬ v5.heap.size = v3.heap.size := by omega
        refine wp_named (fun W_ => (isRow W_ gv ∧ rowAt W_ gv = #[.int .i64 m, .int .i64 p0, .int .i64 p1, .bool o0, .bool o1, .bool true, .int .u32 a, .int .u32 b, .slice (some ⟨lv, 0, none⟩) ys.length ys.length, .int .i64 lost]) ∧ (isRow W_ lv ∧ rowAt W_ lv = (FA (setSt ys k 0))) ∧ (isRow W_ gF ∧ rowAt W_ gF = #[.int .i64 m, .int .i64 p0, .int .i64 p1, .bool o0, .bool o1, .bool true, .int .u32 a, .int .u32 b]) ∧ (isRow W_ v3.heap.size ∧ rowAt W_ v3.heap.size = #[.bool false, .int .i64 (-1)]) ∧ (isRow W_ v5.heap.size ∧ rowAt W_ v5.heap.size = #[.bool false, .int .i64 (-1)]) ∧ Below w.heap.size w W_) (by refine ⟨⟨by go_simp, by go_simp⟩, ⟨by go_simp, by go_simp⟩, ⟨by go_simp, by go_simp⟩, ⟨by go_simp, by go_simp⟩, ⟨by go_simp, by go_simp⟩, by go_simp⟩) ?_
        rintro v6 ⟨⟨V_6, V_6'⟩, ⟨L_6, L_6'⟩, ⟨F_6, F_6'⟩, ⟨E1_6, E1_6'⟩, ⟨E2_6, E2_6'⟩, hB_6⟩
        clear V_5 V_5' L_5 L_5' F_5 F_5' E1_5 E1_5' hB_5
        have hz_6 : w.heap.size ≤ v6.heap.size := hB_6.size
        have hl_V_6 := isRow.lt V_6
        have ne_V_6_0 : ¬ gv = v6.heap.size := by omega
        have en_V_6_0 : ¬ v6.heap.size = gv := by omega
        have ne_V_6_1 : ¬ gv = v6.heap.size + 1 := by omega
        have en_V_6_1 : ¬ v6.heap.size + 1 = gv := by omega
        have hl_L_6 := isRow.lt L_6
        have ne_L_6_0 : ¬ lv = v6.heap.size := by omega
        have en_L_6_0 : ¬ v6.heap.size = lv := by omega
        have ne_L_6_1 : ¬ lv = v6.heap.size + 1 := by omega
        have en_L_6_1 : ¬ v6.heap.size + 1 = lv := by omega
        have hl_F_6 := isRow.lt F_6
        have ne_F_6_0 : ¬ gF = v6.heap.size := by omega
        have en_F_6_0 : ¬ v6.heap.size = gF := by omega
        have ne_F_6_1 : ¬ gF = v6.heap.size + 1 := by omega
        have en_F_6_1 : ¬ v6.heap.size + 1 = gF := by omega
        have hl_E1_6 := isRow.lt E1_6
        have ne_E1_6_0 : ¬ v3.heap.size = v6.heap.size := by omega
        have en_E1_6_0 : ¬ v6.heap.size = v3.heap.size := by omega
        have ne_E1_6_1 : ¬ v3.heap.size = v6.heap.size + 1 := by omega
        have en_E1_6_1 : ¬ v6.heap.size + 1 = v3.heap.size := by omega
        have hl_E2_6 := isRow.lt E2_6
        have ne_E2_6_0 : ¬ v5.heap.size = v6.heap.size := by omega
        have en_E2_6_0 : ¬ v6.heap.size = v5.heap.size := by omega
        have ne_E2_6_1 : ¬ v5.heap.size = v6.heap.size + 1 := by omega
        have en_E2_6_1 : ¬ v6.heap.size + 1 = v5.heap.size := by omega
        refine wp_region_held_drew (S := fun w' => isRow w' gv ∧ rowAt w' gv = #[.int .i64 m, .int .i64 p0, .int .i64 p1, .bool o0, .bool o1, .bool true, .int .u32 a, .int .u32 b, .slice (some ⟨lv, 0, none⟩) ys.length ys.length, .int .i64 lost] ∧ isRow w' lv ∧ rowAt w' lv = (FA (setSt ys k 0)) ∧ isRow w' gF ∧ rowAt w' gF = #[.int .i64 m, .int .i64 p0, .int .i64 p1, .bool o0, .bool o1, .bool true, .int .u32 a, .int .u32 b] ∧ isRow w' v3.heap.size ∧ rowAt w' v3.heap.size = #[.bool false, .int .i64 (-1)] ∧ isRow w' v5.heap.size ∧ rowAt w' v5.heap.size = #[.bool false, .int .i64 (-1)] ∧ Below w.heap.size w w') (by kernel_rfl) ⟨V_6, V_6', L_6, L_6', F_6, F_6', E1_6, E1_6', E2_6, E2_6', below_drew0 hB_6⟩ (fun hHeld => ?_)
        refine tk 0 ⟨some 90, .move (.tmp 14), 3, "law.go:224", #[], none⟩ ?_ ?_ ?_
        rotate_left
        · (intro w_ hS_; (try dsimp only at hS_); go_simp; try with_reducible rfl)
        try simp only [Act.put, List.setIfInBounds_toArray, List.set_cons_zero, List.set_cons_succ]
        refine tk 1 ⟨some 91, .binOp .geq 3 (.tmp 90) (.const (.int .i64 8192)) 3, 4, "law.go:224", #[⟨0, .data⟩], none⟩ ?_ ?_ ?_
        rotate_left
        · (intro w_ hS_; (try dsimp only at hS_); go_simp; try with_reducible rfl)
        try simp only [Act.put, List.setIfInBounds_toArray, List.set_cons_zero, List.set_cons_succ]
        refine tk 2 ⟨some 92, .move (.tmp 91), 4, "law.go:224", #[⟨1, .data⟩], none⟩ ?_ ?_ ?_
        rotate_left
        · (intro w_ hS_; (try dsimp only at hS_); go_simp; try with_reducible rfl)
        try simp only [Act.put, List.setIfInBounds_toArray, List.set_cons_zero, List.set_cons_succ]
        refine tk 3 ⟨some 93, .fieldAddr 57 (.tmp 17) 0, 0, "law.go:224", #[⟨2, .guard⟩], some (2, true)⟩ ?_ ?_ ?_
        rotate_left
        · (intro w_ hS_; (try dsimp only at hS_); go_simp; try with_reducible rfl)
        try simp only [Act.put, List.setIfInBounds_toArray, List.set_cons_zero, List.set_cons_succ]
        refine tk 4 ⟨some 94, .load 4 (.tmp 93), 4, "law.go:224", #[⟨3, .data⟩, ⟨2, .guard⟩], some (2, true)⟩ ?_ ?_ ?_
        rotate_left
        · (intro w_ hS_; (try dsimp only at hS_); go_simp; try with_reducible rfl)
        try simp only [Act.put, List.setIfInBounds_toArray, List.set_cons_zero, List.set_cons_succ]
        refine tk 5 ⟨some 95, .unOp .not 4 (.tmp 94), 4, "law.go:224", #[⟨4, .data⟩, ⟨2, .guard⟩], some (2, true)⟩ ?_ ?_ ?_
        rotate_left
        · (intro w_ hS_; (try dsimp only at hS_); go_simp; try with_reducible rfl)
        try simp only [Act.put, List.setIfInBounds_toArray, List.set_cons_zero, List.set_cons_succ]
        refine tk 6 ⟨some 96, .pick (.tmp 92) (.tmp 95) (.const (.bool false)), 4, "law.go:224", #[⟨2, .data⟩, ⟨5, .data⟩], none⟩ ?_ ?_ ?_
        rotate_left
        · (intro w_ hS_; (try dsimp only at hS_); go_simp; try with_reducible rfl)
        try simp only [Act.put, List.setIfInBounds_toArray, List.set_cons_zero, List.set_cons_succ]
        refine tk 7 ⟨some 97, .move (.tmp 96), 4, "law.go:224", #[⟨6, .data⟩, ⟨2, .chain⟩], none⟩ ?_ ?_ ?_
        rotate_left
        · (intro w_ hS_; (try dsimp only at hS_); go_simp; try with_reducible rfl)
        try simp only [Act.put, List.setIfInBounds_toArray, List.set_cons_zero, List.set_cons_succ]
        refine tk 8 ⟨some 98, .move (.tmp 10), 24, "law.go:224", #[⟨7, .guard⟩], some (7, true)⟩ ?_ ?_ ?_
        rotate_left
        · (intro w_ hS_; (try dsimp only at hS_); go_simp; try with_reducible rfl)
        try simp only [Act.put, List.setIfInBounds_toArray, List.set_cons_zero, List.set_cons_succ]
        refine tk 9 ⟨some 99, .nilCheck (.tmp 98), 0, "law.go:224", #[⟨8, .data⟩, ⟨7, .guard⟩], some (7, true)⟩ ?_ ?_ ?_
        rotate_left
        · (intro w_ hS_; (try dsimp only at hS_); go_simp; try with_reducible rfl)
        try simp only [Act.put, List.setIfInBounds_toArray, List.set_cons_zero, List.set_cons_succ]
        refine tk 10 ⟨some 100, .fieldAddr 37 (.tmp 99) 2, 0, "law.go:224", #[⟨9, .data⟩, ⟨7, .guard⟩], some (7, true)⟩ ?_ ?_ ?_
        rotate_left
        · (intro w_ hS_; (try dsimp only at hS_); go_simp; try with_reducible rfl)
        try simp only [Act.put, List.setIfInBounds_toArray, List.set_cons_zero, List.set_cons_succ]
        refine tk 11 ⟨some 101, .load 3 (.tmp 100), 3, "law.go:224", #[⟨10, .data⟩, ⟨7, .guard⟩], some (7, true)⟩ ?_ ?_ ?_
        rotate_left
        · (intro w_ hS_; (try dsimp only at hS_); go_simp; try with_reducible rfl)
        try simp only [Act.put, List.setIfInBounds_toArray, List.set_cons_zero, List.set_cons_succ]
        refine tk 12 ⟨some 102, .move (.tmp 13), 3, "law.go:224", #[⟨7, .guard⟩], some (7, true)⟩ ?_ ?_ ?_
        rotate_left
        · (intro w_ hS_; (try dsimp only at hS_); go_simp; try with_reducible rfl)
        try simp only [Act.put, List.setIfInBounds_toArray, List.set_cons_zero, List.set_cons_succ]
        refine tk 13 ⟨some 103, .binOp .eql 3 (.tmp 101) (.tmp 102) 3, 4, "law.go:224", #[⟨11, .data⟩, ⟨12, .data⟩, ⟨7, .guard⟩], some (7, true)⟩ ?_ ?_ ?_
        rotate_left
        · (intro w_ hS_; (try dsimp only at hS_); go_simp; try with_reducible rfl)
        try simp only [Act.put, List.setIfInBounds_toArray, List.set_cons_zero, List.set_cons_succ]
        refine tk 14 ⟨some 104, .pick (.tmp 97) (.tmp 103) (.const (.bool false)), 4, "law.go:224", #[⟨7, .data⟩, ⟨13, .data⟩], none⟩ ?_ ?_ ?_
        rotate_left
        · (intro w_ hS_; (try dsimp only at hS_); go_simp; try with_reducible rfl)
        try simp only [Act.put, List.setIfInBounds_toArray, List.set_cons_zero, List.set_cons_succ]
        refine tk 15 ⟨some 105, .move (.tmp 104), 4, "law.go:224", #[⟨14, .data⟩, ⟨7, .chain⟩], none⟩ ?_ ?_ ?_
        rotate_left
        · (intro w_ hS_; (try dsimp only at hS_); go_simp; try with_reducible rfl)
        try simp only [Act.put, List.setIfInBounds_toArray, List.set_cons_zero, List.set_cons_succ]
        refine tu 16 ⟨some 106, .move (.tmp 14), 3, "law.go:224", #[⟨15, .guard⟩], some (15, false)⟩ ?_
        try simp only [Act.put, List.setIfInBounds_toArray, List.set_cons_zero, List.set_cons_succ]
        refine tu 17 ⟨some 107, .binOp .lss 3 (.tmp 106) (.const (.int .i64 8192)) 3, 4, "law.go:224", #[⟨16, .data⟩, ⟨15, .guard⟩], some (15, false)⟩ ?_
        try simp only [Act.put, List.setIfInBounds_toArray, List.set_cons_zero, List.set_cons_succ]
        refine tu 18 ⟨some 108, .move (.tmp 107), 4, "law.go:224", #[⟨17, .data⟩, ⟨15, .chain⟩, ⟨15, .guard⟩], some (15, false)⟩ ?_
        try simp only [Act.put, List.setIfInBounds_toArray, List.set_cons_zero, List.set_cons_succ]
        refine tu 19 ⟨some 109, .fieldAddr 57 (.tmp 17) 0, 0, "law.go:224", #[⟨18, .guard⟩], some (18, true)⟩ ?_
        try simp only [Act.put, List.setIfInBounds_toArray, List.set_cons_zero, List.set_cons_succ]
        refine tu 20 ⟨some 110, .load 4 (.tmp 109), 4, "law.go:224", #[⟨19, .data⟩, ⟨18, .guard⟩], some (18, true)⟩ ?_
        try simp only [Act.put, List.setIfInBounds_toArray, List.set_cons_zero, List.set_cons_succ]
        refine tu 21 ⟨some 111, .pick (.tmp 108) (.tmp 110) (.const (.bool false)), 4, "law.go:224", #[⟨18, .data⟩, ⟨20, .data⟩, ⟨15, .guard⟩], some (15, false)⟩ ?_
        try simp only [Act.put, List.setIfInBounds_toArray, List.set_cons_zero, List.set_cons_succ]
        refine tu 22 ⟨some 112, .move (.tmp 111), 4, "law.go:224", #[⟨21, .data⟩, ⟨18, .chain⟩, ⟨15, .guard⟩], some (15, false)⟩ ?_
        try simp only [Act.put, List.setIfInBounds_toArray, List.set_cons_zero, List.set_cons_succ]
        refine tu 23 ⟨some 113, .move (.tmp 10), 24, "law.go:224", #[⟨22, .guard⟩], some (22, true)⟩ ?_
        try simp only [Act.put, List.setIfInBounds_toArray, List.set_cons_zero, List.set_cons_succ]
        refine tu 24 ⟨some 114, .nilCheck (.tmp 113), 0, "law.go:224", #[⟨23, .data⟩, ⟨22, .guard⟩], some (22, true)⟩ ?_
        try simp only [Act.put, List.setIfInBounds_toArray, List.set_cons_zero, List.set_cons_succ]
        refine tu 25 ⟨some 115, .fieldAddr 37 (.tmp 114) 1, 0, "law.go:224", #[⟨24, .data⟩, ⟨22, .guard⟩], some (22, true)⟩ ?_
        try simp only [Act.put, List.setIfInBounds_toArray, List.set_cons_zero, List.set_cons_succ]
        refine tu 26 ⟨some 116, .load 22 (.tmp 115), 22, "law.go:224", #[⟨25, .data⟩, ⟨22, .guard⟩], some (22, true)⟩ ?_
        try simp only [Act.put, List.setIfInBounds_toArray, List.set_cons_zero, List.set_cons_succ]
        refine tu 27 ⟨some 117, .move (.tmp 14), 3, "law.go:224", #[⟨22, .guard⟩], some (22, true)⟩ ?_
        try simp only [Act.put, List.setIfInBounds_toArray, List.set_cons_zero, List.set_cons_succ]
        refine tu 28 ⟨some 118, .call ⟨.value (.func 22), #[.tmp 116, .tmp 117], #[22, 3]⟩, 3, "law.go:224", #[⟨26, .data⟩, ⟨27, .data⟩, ⟨22, .chain⟩, ⟨22, .guard⟩], some (22, true)⟩ ?_
        try simp only [Act.put, List.setIfInBounds_toArray, List.set_cons_zero, List.set_cons_succ]
        refine tu 29 ⟨some 119, .binOp .lss 3 (.tmp 118) (.const (.int .i64 0)) 3, 4, "law.go:224", #[⟨28, .data⟩, ⟨22, .guard⟩], some (22, true)⟩ ?_
        try simp only [Act.put, List.setIfInBounds_toArray, List.set_cons_zero, List.set_cons_succ]
        refine tu 30 ⟨some 120, .pick (.tmp 112) (.tmp 119) (.const (.bool false)), 4, "law.go:224", #[⟨22, .data⟩, ⟨29, .data⟩, ⟨15, .guard⟩], some (15, false)⟩ ?_
        try simp only [Act.put, List.setIfInBounds_toArray, List.set_cons_zero, List.set_cons_succ]
        refine tu 31 ⟨some 121, .move (.tmp 120), 4, "law.go:224", #[⟨30, .data⟩, ⟨28, .chain⟩, ⟨15, .guard⟩], some (15, false)⟩ ?_
        try simp only [Act.put, List.setIfInBounds_toArray, List.set_cons_zero, List.set_cons_succ]
        refine tu 32 ⟨some 122, .move (.tmp 10), 24, "law.go:224", #[⟨31, .guard⟩], some (31, true)⟩ ?_
        try simp only [Act.put, List.setIfInBounds_toArray, List.set_cons_zero, List.set_cons_succ]
        refine tu 33 ⟨some 123, .nilCheck (.tmp 122), 0, "law.go:224", #[⟨32, .data⟩, ⟨31, .guard⟩], some (31, true)⟩ ?_
        try simp only [Act.put, List.setIfInBounds_toArray, List.set_cons_zero, List.set_cons_succ]
        refine tu 34 ⟨some 124, .fieldAddr 37 (.tmp 123) 1, 0, "law.go:224", #[⟨33, .data⟩, ⟨31, .guard⟩], some (31, true)⟩ ?_
        try simp only [Act.put, List.setIfInBounds_toArray, List.set_cons_zero, List.set_cons_succ]
        refine tu 35 ⟨some 125, .load 22 (.tmp 124), 22, "law.go:224", #[⟨34, .data⟩, ⟨31, .guard⟩], some (31, true)⟩ ?_
        try simp only [Act.put, List.setIfInBounds_toArray, List.set_cons_zero, List.set_cons_succ]
        refine tu 36 ⟨some 126, .move (.tmp 15), 3, "law.go:224", #[⟨31, .guard⟩], some (31, true)⟩ ?_
        try simp only [Act.put, List.setIfInBounds_toArray, List.set_cons_zero, List.set_cons_succ]
        refine tu 37 ⟨some 127, .indexAddr 22 (.tmp 125) (.tmp 126), 0, "law.go:224", #[⟨35, .data⟩, ⟨36, .data⟩, ⟨31, .guard⟩], some (31, true)⟩ ?_
        try simp only [Act.put, List.setIfInBounds_toArray, List.set_cons_zero, List.set_cons_succ]
        refine tu 38 ⟨some 128, .load 54 (.tmp 127), 54, "law.go:224", #[⟨37, .data⟩, ⟨31, .guard⟩], some (31, true)⟩ ?_
        try simp only [Act.put, List.setIfInBounds_toArray, List.set_cons_zero, List.set_cons_succ]
        refine tu 39 ⟨some 129, .load 57 (.tmp 17), 57, "law.go:224", #[⟨31, .guard⟩], some (31, true)⟩ ?_
        try simp only [Act.put, List.setIfInBounds_toArray, List.set_cons_zero, List.set_cons_succ]
        refine tu 40 ⟨some 130, .call ⟨.value (.func 25), #[.tmp 128, .tmp 129], #[54, 57]⟩, 4, "law.go:224", #[⟨38, .data⟩, ⟨39, .data⟩, ⟨31, .chain⟩, ⟨31, .guard⟩], some (31, true)⟩ ?_
        try simp only [Act.put, List.setIfInBounds_toArray, List.set_cons_zero, List.set_cons_succ]
        refine tu 41 ⟨some 131, .pick (.tmp 121) (.tmp 130) (.const (.bool false)), 4, "law.go:224", #[⟨31, .data⟩, ⟨40, .data⟩, ⟨15, .guard⟩], some (15, false)⟩ ?_
        try simp only [Act.put, List.setIfInBounds_toArray, List.set_cons_zero, List.set_cons_succ]
        refine tk 42 ⟨some 132, .pick (.tmp 105) (.const (.bool true)) (.tmp 131), 4, "law.go:224", #[⟨15, .data⟩, ⟨41, .data⟩], none⟩ ?_ ?_ ?_
        rotate_left
        · (intro w_ hS_; (try dsimp only at hS_); go_simp; try with_reducible rfl)
        try simp only [Act.put, List.setIfInBounds_toArray, List.set_cons_zero, List.set_cons_succ]
        refine tk 43 ⟨some 8, .assign (.tmp 132), 4, "law.go:224", #[⟨42, .data⟩, ⟨40, .chain⟩, ⟨0, .phase⟩, ⟨1, .phase⟩, ⟨2, .phase⟩, ⟨3, .phase⟩, ⟨4, .phase⟩, ⟨5, .phase⟩, ⟨6, .phase⟩, ⟨7, .phase⟩, ⟨8, .phase⟩, ⟨9, .phase⟩, ⟨10, .phase⟩, ⟨11, .phase⟩, ⟨12, .phase⟩, ⟨13, .phase⟩, ⟨14, .phase⟩, ⟨15, .phase⟩, ⟨16, .phase⟩, ⟨17, .phase⟩, ⟨18, .phase⟩, ⟨19, .phase⟩, ⟨20, .phase⟩, ⟨21, .phase⟩, ⟨22, .phase⟩, ⟨23, .phase⟩, ⟨24, .phase⟩, ⟨25, .phase⟩, ⟨26, .phase⟩, ⟨27, .phase⟩, ⟨28, .phase⟩, ⟨29, .phase⟩, ⟨30, .phase⟩, ⟨31, .phase⟩, ⟨32, .phase⟩, ⟨33, .phase⟩, ⟨34, .phase⟩, ⟨35, .phase⟩, ⟨36, .phase⟩, ⟨37, .phase⟩, ⟨38, .phase⟩, ⟨39, .phase⟩, ⟨40, .phase⟩, ⟨41, .phase⟩, ⟨42, .phase⟩], none⟩ ?_ ?_ ?_
        rotate_left
        · (intro w_ hS_; (try dsimp only at hS_); go_simp; try with_reducible rfl)
        try simp only [Act.put, List.setIfInBounds_toArray, List.set_cons_zero, List.set_cons_succ]
        refine wpAnyH_done (by kernel_rfl) ?_ _
        (try dsimp only at hHeld)
        go_split_ands
        go_wp2
        go_ret
        exact ⟨rfl, by assumption⟩
      · skip
        have hA : ∀ W, isRow W gv → rowAt W gv = #[.int .i64 m, .int .i64 p0, .int .i64 p1, .bool o0, .bool o1, .bool true, .int .u32 a, .int .u32 b, .slice (some ⟨lv, 0, none⟩) ys.length ys.length, .int .i64 lost] → isRow W lv → rowAt W lv = FA ys → Calls Try.prog 17 #[.pointer (some ⟨gv, 0, none⟩), .int .i64 gp] W fun e w' => e = .returned (.int .i64 id) ∧ Row w' gv #[.int .i64 m, .int .i64 p0, .int .i64 p1, .bool o0, .bool o1, .bool true, .int .u32 (setA .or a gp (levP p0 p1 (best ys).pr gp)), .int .u32 (setB .or b gp (levP p0 p1 (best ys).pr gp)), .slice (some ⟨lv, 0, none⟩) ys.length ys.length, .int .i64 lost] ∧ Row w' lv (FA (setSt ys k 2)) ∧ Aside2 gv lv W w' := fun W q1 q2 q3 q4 => by
          have q := ack_c gv lv m p0 p1 o0 o1 true a b ys h16 lost gp n12 W q1 q2 q3 q4
          unfold ackId ackXs ackA ackB at q
          rw [hbe] at q
          rw [if_pos hT, if_pos hT, if_pos hT, if_pos hT, hf, Int.toNat_natCast, if_neg hid] at q
          exact q
        obtain ⟨hd1, hd2, hd3⟩ := ends_lad hW.a hW.b hT hpr0 hpr1 hpr8 hgp
        have hl1 : ((setSt ys k 2)).length = ys.length := setSt_length _ _ _
        have hst1 : stOk (setSt ys k 2) := stOk_set hst k 2 (by decide)
        have hf1 : findOf (setSt ys k 2) id = (k : Int) := find_set hG hk (by rw [q0]; decide) q1 (by omega)
        obtain ⟨he1, he2, he3⟩ := end_lo hk hf1
        have he4 : endLost (setSt ys k 2) id lost = lost := by unfold endLost; rw [he1]; rfl
        have hf2 : findOf (setSt (setSt ys k 2) k 0) id = -1 := find_gone2 hG hk (by rw [q0]; decide) q1 (by omega)
        have hl2 : ((setSt (setSt ys k 2) k 0)).length = ys.length := (setSt_length _ _ _).trans hl1
        obtain ⟨MM, hMM⟩ : ∃ MM : Int, MM = if (rd_T54 ys k).f4 = true then (rd_T54 ys k).f5 else -1 := ⟨_, rfl⟩
        rw [← hMM] at he2
        have hE : ∀ W, isRow W gv → rowAt W gv = #[.int .i64 m, .int .i64 p0, .int .i64 p1, .bool o0, .bool o1, .bool true, .int .u32 (setA .or a gp (levP p0 p1 (best ys).pr gp)), .int .u32 (setB .or b gp (levP p0 p1 (best ys).pr gp)), .slice (some ⟨lv, 0, none⟩) ys.length ys.length, .int .i64 lost] → isRow W lv → rowAt W lv = FA (setSt ys k 2) → Calls Try.prog 23 #[.pointer (some ⟨gv, 0, none⟩), .int .i64 gp, .int .i64 id] W fun e w' => e = .returned (.agg #[.bool false, .int .i64 (-1)]) ∧ Row w' gv #[.int .i64 m, .int .i64 p0, .int .i64 p1, .bool o0, .bool o1, .bool true, .int .u32 a, .int .u32 b, .slice (some ⟨lv, 0, none⟩) ys.length ys.length, .int .i64 lost] ∧ Row w' lv (FA (setSt ys k 2)) ∧ Aside2 gv lv W w' := fun W q1 q2 q3 q4 => by
          have q := eoi_c gv lv m p0 p1 o0 o1 true (setA .or a gp (levP p0 p1 (best ys).pr gp)) (setB .or b gp (levP p0 p1 (best ys).pr gp)) (setSt ys k 2) (by rw [hl1]; exact h16) hst1 lost gp id hlo hhi n12 W q1 (by rw [hl1]; exact q2) q3 q4
          unfold eoiGo eoiA eoiB gOk gM gXs gLost at q
          rw [hl1, hre, hd1, hd2, hd3] at q
          exact q
        have hD : ∀ W, isRow W gv → rowAt W gv = #[.int .i64 m, .int .i64 p0, .int .i64 p1, .bool o0, .bool o1, .bool true, .int .u32 a, .int .u32 b, .slice (some ⟨lv, 0, none⟩) ys.length ys.length, .int .i64 lost] → isRow W lv → rowAt W lv = FA (setSt ys k 2) → Calls Try.prog 24 #[.pointer (some ⟨gv, 0, none⟩), .int .i64 id] W fun e w' => e = .returned (.agg #[.bool true, .int .i64 MM]) ∧ Row w' gv #[.int .i64 m, .int .i64 p0, .int .i64 p1, .bool o0, .bool o1, .bool true, .int .u32 a, .int .u32 b, .slice (some ⟨lv, 0, none⟩) ys.length ys.length, .int .i64 lost] ∧ Row w' lv (FA (setSt (setSt ys k 2) k 0)) ∧ Aside2 gv lv W w' := fun W q1 q2 q3 q4 => by
          have q := dir_c gv lv m p0 p1 o0 o1 true a b (setSt ys k 2) (by rw [hl1]; exact h16) hst1 lost id hlo hhi n12 W q1 (by rw [hl1]; exact q2) q3 q4
          unfold dirGo gOk gM gXs gLost at q
          rw [hl1, hre] at q
          simp only [Bool.and_self, if_true] at q
          rw [he1, he2, he3, he4] at q
          exact q
        have HF1 := Lib.hid (fun (W : World) (h : isRow W lv) (h' : rowAt W lv = FA (setSt ys k 2)) => find_n hl1 h16 h h' hf1)
        have HF2 := Lib.hid (fun (W : World) (h : isRow W lv) (h' : rowAt W lv = FA (setSt (setSt ys k 2) k 0)) => find_n hl2 h16 h h' hf2)
        have HA := Lib.hid hA
        have HE := Lib.hid hE
        have HD := Lib.hid hD
        have hrd : rd_T54 (setSt (setSt ys k 2) k 0) k = { rd_T54 ys k with f0 := 0 } := by rw [rd_set_same (xs := setSt ys k 2) 0 (by rw [setSt_length]; exact hk), rd_set_same 2 hk]
        have hcl := fa_rd (by rw [hl2]; exact hk) hrd
        dsimp only at hcl
        generalize rd_T54 ys k = x at *
        obtain ⟨x0, x1, x2, x3, x4, x5, x6⟩ := x
        dsimp only at hcl hMM
        obtain ⟨cc0, cc1, cc2, cc3, cc4, cc5, cc6⟩ := hcl
        have HMM := Lib.hid hMM
        have hk1 : (k : Int) < (ys.length : Int) := by omega
        have hk0 : (0 : Int) ≤ (k : Int) := by omega
        have HED := Lib.hid (fun W : World => ended_c 0 x1 x2 x3 x4 x5 x6 true MM hMM W)
        clear hMM hrd q0 q1
        generalize hA2 : (setA .or a gp (levP p0 p1 (best ys).pr gp)) = a2 at *
        generalize hB2 : (setB .or b gp (levP p0 p1 (best ys).pr gp)) = b2 at *
        clear hA hE hd1 hd2 hd3 hA2 hB2 he1 he2 he3 he4 hf1 hf2 hst1 hT hf hG hW hgp hre hl1 hl2 hpr0 hpr1 hpr8 hbe
        clear hD
        have hid0 : id < 8192 := by omega
        have hid1 : decide (8192 ≤ id) = false := decide_eq_false hid
        have hid2 : decide (id < 8192) = true := decide_eq_true hid0
        have hsz1 := isRow.lt V0
        have hsz2 := isRow.lt L0
        have hsz3 := hB0.size
        have ne_V_F : ¬ gv = v0.heap.size := by omega
        have en_V_F : ¬ v0.heap.size = gv := by omega
        have ne_L_F : ¬ lv = v0.heap.size := by omega
        have en_L_F : ¬ v0.heap.size = lv := by omega
        go_upto_region 8 with fail
        go_cut [12, 13] (fun s12 s13 wx => s12 = .pointer (some ⟨v0.heap.size, 0, none⟩) ∧ s13 = .int .i64 lost ∧ (isRow wx gv ∧ rowAt wx gv = #[.int .i64 m, .int .i64 p0, .int .i64 p1, .bool o0, .bool o1, .bool true, .int .u32 a, .int .u32 b, .slice (some ⟨lv, 0, none⟩) ys.length ys.length, .int .i64 lost]) ∧ (isRow wx lv ∧ rowAt wx lv = FA ys) ∧ (isRow wx v0.heap.size ∧ rowAt wx v0.heap.size = #[.int .i64 m, .int .i64 p0, .int .i64 p1, .bool o0, .bool o1, .bool true, .int .u32 a, .int .u32 b]) ∧ Below w.heap.size w wx)
        case first =>
          go_region
          all_goals
            go_wp2_with fail
            go_meet
            exact ⟨rfl, rfl, ⟨by go_simp, by go_simp⟩, ⟨by go_simp, by go_simp⟩, ⟨by go_simp, by go_simp⟩, by go_simp⟩
        obtain ⟨rfl, rfl, ⟨VZ, VZ'⟩, ⟨LZ, LZ'⟩, ⟨FZ, FZ'⟩, hBZ⟩ := hcut
        have hsz4 := isRow.lt FZ
        generalize hgF : v0.heap.size = gF at *
        clear hB0 V0 V0' L0 L0' hgF
        have hsz5 := hBZ.size
        go_wp2_with fail
        refine (HA.out _ (by go_simp) (by go_simp) (by go_simp) (by go_simp)).mono ?_
        rintro e v1 ⟨rfl, ⟨V_1, V_1'⟩, ⟨L_1, L_1'⟩, hA1⟩
        obtain ⟨F_1, F_1'⟩ : Row v1 gF #[.int .i64 m, .int .i64 p0, .int .i64 p1, .bool o0, .bool o1, .bool true, .int .u32 a, .int .u32 b] := hA1.row ⟨by go_simp, by go_simp⟩ (by omega) (by omega)
        have hB_1 : Below w.heap.size w v1 := hA1.below (by go_simp) (by first | omega | (go_simp; done) | (go_simp; omega)) (by first | omega | (go_simp; done) | (go_simp; omega)) (by first | (go_simp; done) | (go_simp; omega) | exact Below.size (by assumption))
        clear VZ VZ' LZ LZ' FZ FZ' hBZ hA1
        have hz_1 : w.heap.size ≤ v1.heap.size := hB_1.size
        have hl_V_1 := isRow.lt V_1
        have ne_V_1_0 : ¬ gv = v1.heap.size := by omega
        have en_V_1_0 : ¬ v1.heap.size = gv := by omega
        have ne_V_1_1 : ¬ gv = v1.heap.size + 1 := by omega
        have en_V_1_1 : ¬ v1.heap.size + 1 = gv := by omega
        have hl_L_1 := isRow.lt L_1
        have ne_L_1_0 : ¬ lv = v1.heap.size := by omega
        have en_L_1_0 : ¬ v1.heap.size = lv := by omega
        have ne_L_1_1 : ¬ lv = v1.heap.size + 1 := by omega
        have en_L_1_1 : ¬ v1.heap.size + 1 = lv := by omega
        have hl_F_1 := isRow.lt F_1
        have ne_F_1_0 : ¬ gF = v1.heap.size := by omega
        have en_F_1_0 : ¬ v1.heap.size = gF := by omega
        have ne_F_1_1 : ¬ gF = v1.heap.size + 1 := by omega
        have en_F_1_1 : ¬ v1.heap.size + 1 = gF := by omega
        go_wp2_with fail
        refine (HF1.out _ (by go_simp) (by go_simp)).mono ?_
        rintro e v2 ⟨rfl, hb2⟩
        obtain ⟨V_2, V_2'⟩ : Row v2 gv #[.int .i64 m, .int .i64 p0, .int .i64 p1, .bool o0, .bool o1, .bool true, .int .u32 a2, .int .u32 b2, .slice (some ⟨lv, 0, none⟩) ys.length ys.length, .int .i64 lost] := Row.step (by go_simp) (by go_simp) hb2
        obtain ⟨L_2, L_2'⟩ : Row v2 lv (FA (setSt ys k 2)) := Row.step (by go_simp) (by go_simp) hb2
        obtain ⟨F_2, F_2'⟩ : Row v2 gF #[.int .i64 m, .int .i64 p0, .int .i64 p1, .bool o0, .bool o1, .bool true, .int .u32 a, .int .u32 b] := Row.step (by go_simp) (by go_simp) hb2
        have hB_2 : Below w.heap.size w v2 := bk (by go_simp) (by first | (go_simp; done) | (go_simp; omega) | exact Below.size (by assumption)) hb2
        clear V_1 V_1' L_1 L_1' F_1 F_1' hB_1 hb2
        have hz_2 : w.heap.size ≤ v2.heap.size := hB_2.size
        have hl_V_2 := isRow.lt V_2
        have ne_V_2_0 : ¬ gv = v2.heap.size := by omega
        have en_V_2_0 : ¬ v2.heap.size = gv := by omega
        have ne_V_2_1 : ¬ gv = v2.heap.size + 1 := by omega
        have en_V_2_1 : ¬ v2.heap.size + 1 = gv := by omega
        have hl_L_2 := isRow.lt L_2
        have ne_L_2_0 : ¬ lv = v2.heap.size := by omega
        have en_L_2_0 : ¬ v2.heap.size = lv := by omega
        have ne_L_2_1 : ¬ lv = v2.heap.size + 1 := by omega
        have en_L_2_1 : ¬ v2.heap.size + 1 = lv := by omega
        have hl_F_2 := isRow.lt F_2
        have ne_F_2_0 : ¬ gF = v2.heap.size := by omega
        have en_F_2_0 : ¬ v2.heap.size = gF := by omega
        have ne_F_2_1 : ¬ gF = v2.heap.size + 1 := by omega
        have en_F_2_1 : ¬ v2.heap.size + 1 = gF := by omega
        go_wp2_with fail
        refine (HE.out _ (by go_simp) (by go_simp) (by go_simp) (by go_simp)).mono ?_
        rintro e v3 ⟨rfl, ⟨V_3, V_3'⟩, ⟨L_3, L_3'⟩, hA3⟩
        obtain ⟨F_3, F_3'⟩ : Row v3 gF #[.int .i64 m, .int .i64 p0, .int .i64 p1, .bool o0, .bool o1, .bool true, .int .u32 a, .int .u32 b] := hA3.row ⟨by go_simp, by go_simp⟩ (by omega) (by omega)
        have hB_3 : Below w.heap.size w v3 := hA3.below (by go_simp) (by first | omega | (go_simp; done) | (go_simp; omega)) (by first | omega | (go_simp; done) | (go_simp; omega)) (by first | (go_simp; done) | (go_simp; omega) | exact Below.size (by assumption))
        clear V_2 V_2' L_2 L_2' F_2 F_2' hB_2 hA3
        have hz_3 : w.heap.size ≤ v3.heap.size := hB_3.size
        have hl_V_3 := isRow.lt V_3
        have ne_V_3_0 : ¬ gv = v3.heap.size := by omega
        have en_V_3_0 : ¬ v3.heap.size = gv := by omega
        have ne_V_3_1 : ¬ gv = v3.heap.size + 1 := by omega
        have en_V_3_1 : ¬ v3.heap.size + 1 = gv := by omega
        have hl_L_3 := isRow.lt L_3
        have ne_L_3_0 : ¬ lv = v3.heap.size := by omega
        have en_L_3_0 : ¬ v3.heap.size = lv := by omega
        have ne_L_3_1 : ¬ lv = v3.heap.size + 1 := by omega
        have en_L_3_1 : ¬ v3.heap.size + 1 = lv := by omega
        have hl_F_3 := isRow.lt F_3
        have ne_F_3_0 : ¬ gF = v3.heap.size := by omega
        have en_F_3_0 : ¬ v3.heap.size = gF := by omega
        have ne_F_3_1 : ¬ gF = v3.heap.size + 1 := by omega
        have en_F_3_1 : ¬ v3.heap.size + 1 = gF := by omega
        go_wp2_with fail
        have ne_V_E1 : ¬ gv = v3.heap.size := by omega
        have en_V_E1 : ¬ v3.heap.size = gv := by omega
        have ne_L_E1 : ¬ lv = v3.heap.size := by omega
        have en_L_E1 : ¬ v3.heap.size = lv := by omega
        have ne_F_E1 : ¬ gF = v3.heap.size := by omega
        have en_F_E1 : ¬ v3.heap.size = gF := by omega
        refine wp_named (fun W_ => (isRow W_ gv ∧ rowAt W_ gv = #[.int .i64 m, .int .i64 p0, .int .i64 p1, .bool o0, .bool o1, .bool true, .int .u32 a, .int .u32 b, .slice (some ⟨lv, 0, none⟩) ys.length ys.length, .int .i64 lost]) ∧ (isRow W_ lv ∧ rowAt W_ lv = (FA (setSt ys k 2))) ∧ (isRow W_ gF ∧ rowAt W_ gF = #[.int .i64 m, .int .i64 p0, .int .i64 p1, .bool o0, .bool o1, .bool true, .int .u32 a, .int .u32 b]) ∧ (isRow W_ v3.heap.size ∧ rowAt W_ v3.heap.size = #[.bool false, .int .i64 (-1)]) ∧ Below w.heap.size w W_) (by refine ⟨⟨by go_simp, by go_simp⟩, ⟨by go_simp, by go_simp⟩, ⟨by go_simp, by go_simp⟩, ⟨by go_simp, by go_simp⟩, by go_simp⟩) ?_
        rintro v4 ⟨⟨V_4, V_4'⟩, ⟨L_4, L_4'⟩, ⟨F_4, F_4'⟩, ⟨E1_4, E1_4'⟩, hB_4⟩
        clear V_3 V_3' L_3 L_3' F_3 F_3' hB_3
        have hz_4 : w.heap.size ≤ v4.heap.size := hB_4.size
        have hl_V_4 := isRow.lt V_4
        have ne_V_4_0 : ¬ gv = v4.heap.size := by omega
        have en_V_4_0 : ¬ v4.heap.size = gv := by omega
        have ne_V_4_1 : ¬ gv = v4.heap.size + 1 := by omega
        have en_V_4_1 : ¬ v4.heap.size + 1 = gv := by omega
        have hl_L_4 := isRow.lt L_4
        have ne_L_4_0 : ¬ lv = v4.heap.size := by omega
        have en_L_4_0 : ¬ v4.heap.size = lv := by omega
        have ne_L_4_1 : ¬ lv = v4.heap.size + 1 := by omega
        have en_L_4_1 : ¬ v4.heap.size + 1 = lv := by omega
        have hl_F_4 := isRow.lt F_4
        have ne_F_4_0 : ¬ gF = v4.heap.size := by omega
        have en_F_4_0 : ¬ v4.heap.size = gF := by omega
        have ne_F_4_1 : ¬ gF = v4.heap.size + 1 := by omega
        have en_F_4_1 : ¬ v4.heap.size + 1 = gF := by omega
        have hl_E1_4 := isRow.lt E1_4
        have ne_E1_4_0 : ¬ v3.heap.size = v4.heap.size := by omega
        have en_E1_4_0 : ¬ v4.heap.size = v3.heap.size := by omega
        have ne_E1_4_1 : ¬ v3.heap.size = v4.heap.size + 1 := by omega
        have en_E1_4_1 : ¬ v4.heap.size + 1 = v3.heap.size := by omega
        refine wp_region_held_drew (S := fun w' => isRow w' gv ∧ rowAt w' gv = #[.int .i64 m, .int .i64 p0, .int .i64 p1, .bool o0, .bool o1, .bool true, .int .u32 a, .int .u32 b, .slice (some ⟨lv, 0, none⟩) ys.length ys.length, .int .i64 lost] ∧ isRow w' lv ∧ rowAt w' lv = (FA (setSt ys k 2)) ∧ isRow w' gF ∧ rowAt w' gF = #[.int .i64 m, .int .i64 p0, .int .i64 p1, .bool o0, .bool o1, .bool true, .int .u32 a, .int .u32 b] ∧ isRow w' v3.heap.size ∧ rowAt w' v3.heap.size = #[.bool false, .int .i64 (-1)] ∧ Below w.heap.size w w') (by kernel_rfl) ⟨V_4, V_4', L_4, L_4', F_4, F_4', E1_4, E1_4', below_drew0 hB_4⟩ (fun hHeld => ?_)
        refine tk 0 ⟨some 69, .fieldAddr 57 (.tmp 16) 0, 0, "law.go:220", #[], none⟩ ?_ ?_ ?_
        rotate_left
        · (intro w_ hS_; (try dsimp only at hS_); go_simp; try with_reducible rfl)
        try simp only [Act.put, List.setIfInBounds_toArray, List.set_cons_zero, List.set_cons_succ]
        refine tk 1 ⟨some 70, .load 4 (.tmp 69), 4, "law.go:220", #[⟨0, .data⟩], none⟩ ?_ ?_ ?_
        rotate_left
        · (intro w_ hS_; (try dsimp only at hS_); go_simp; try with_reducible rfl)
        try simp only [Act.put, List.setIfInBounds_toArray, List.set_cons_zero, List.set_cons_succ]
        refine tk 2 ⟨some 71, .move (.tmp 70), 4, "law.go:220", #[⟨1, .data⟩], none⟩ ?_ ?_ ?_
        rotate_left
        · (intro w_ hS_; (try dsimp only at hS_); go_simp; try with_reducible rfl)
        try simp only [Act.put, List.setIfInBounds_toArray, List.set_cons_zero, List.set_cons_succ]
        refine tk 3 ⟨some 72, .move (.tmp 10), 24, "law.go:220", #[⟨2, .guard⟩], some (2, false)⟩ ?_ ?_ ?_
        rotate_left
        · (intro w_ hS_; (try dsimp only at hS_); go_simp; try with_reducible rfl)
        try simp only [Act.put, List.setIfInBounds_toArray, List.set_cons_zero, List.set_cons_succ]
        refine tk 4 ⟨some 73, .nilCheck (.tmp 72), 0, "law.go:220", #[⟨3, .data⟩, ⟨2, .guard⟩], some (2, false)⟩ ?_ ?_ ?_
        rotate_left
        · (intro w_ hS_; (try dsimp only at hS_); go_simp; try with_reducible rfl)
        try simp only [Act.put, List.setIfInBounds_toArray, List.set_cons_zero, List.set_cons_succ]
        refine tk 5 ⟨some 74, .fieldAddr 37 (.tmp 73) 0, 0, "law.go:220", #[⟨4, .data⟩, ⟨2, .guard⟩], some (2, false)⟩ ?_ ?_ ?_
        rotate_left
        · (intro w_ hS_; (try dsimp only at hS_); go_simp; try with_reducible rfl)
        try simp only [Act.put, List.setIfInBounds_toArray, List.set_cons_zero, List.set_cons_succ]
        refine tk 6 ⟨some 75, .load 35 (.tmp 74), 35, "law.go:220", #[⟨5, .data⟩, ⟨2, .guard⟩], some (2, false)⟩ ?_ ?_ ?_
        rotate_left
        · (intro w_ hS_; (try dsimp only at hS_); go_simp; try with_reducible rfl)
        try simp only [Act.put, List.setIfInBounds_toArray, List.set_cons_zero, List.set_cons_succ]
        refine tk 7 ⟨some 76, .load 35 (.tmp 12), 35, "law.go:220", #[⟨2, .guard⟩], some (2, false)⟩ ?_ ?_ ?_
        rotate_left
        · (intro w_ hS_; (try dsimp only at hS_); go_simp; try with_reducible rfl)
        try simp only [Act.put, List.setIfInBounds_toArray, List.set_cons_zero, List.set_cons_succ]
        refine tk 8 ⟨some 77, .binOp .neq 35 (.tmp 75) (.tmp 76) 35, 4, "law.go:220", #[⟨6, .data⟩, ⟨7, .data⟩, ⟨2, .guard⟩], some (2, false)⟩ ?_ ?_ ?_
        rotate_left
        · (intro w_ hS_; (try dsimp only at hS_); go_simp; try with_reducible rfl)
        try simp only [Act.put, List.setIfInBounds_toArray, List.set_cons_zero, List.set_cons_succ]
        refine tk 9 ⟨some 78, .pick (.tmp 71) (.const (.bool true)) (.tmp 77), 4, "law.go:220", #[⟨2, .data⟩, ⟨8, .data⟩], none⟩ ?_ ?_ ?_
        rotate_left
        · (intro w_ hS_; (try dsimp only at hS_); go_simp; try with_reducible rfl)
        try simp only [Act.put, List.setIfInBounds_toArray, List.set_cons_zero, List.set_cons_succ]
        refine tk 10 ⟨some 79, .move (.tmp 78), 4, "law.go:220", #[⟨9, .data⟩, ⟨2, .chain⟩], none⟩ ?_ ?_ ?_
        rotate_left
        · (intro w_ hS_; (try dsimp only at hS_); go_simp; try with_reducible rfl)
        try simp only [Act.put, List.setIfInBounds_toArray, List.set_cons_zero, List.set_cons_succ]
        refine tk 11 ⟨some 80, .move (.tmp 14), 3, "law.go:220", #[⟨10, .guard⟩], some (10, false)⟩ ?_ ?_ ?_
        rotate_left
        · (intro w_ hS_; (try dsimp only at hS_); go_simp; try with_reducible rfl)
        try simp only [Act.put, List.setIfInBounds_toArray, List.set_cons_zero, List.set_cons_succ]
        refine tk 12 ⟨some 81, .binOp .lss 3 (.tmp 80) (.const (.int .i64 8192)) 3, 4, "law.go:220", #[⟨11, .data⟩, ⟨10, .guard⟩], some (10, false)⟩ ?_ ?_ ?_
        rotate_left
        · (intro w_ hS_; (try dsimp only at hS_); go_simp; try with_reducible rfl)
        try simp only [Act.put, List.setIfInBounds_toArray, List.set_cons_zero, List.set_cons_succ]
        refine tk 13 ⟨some 82, .move (.tmp 81), 4, "law.go:220", #[⟨12, .data⟩, ⟨10, .chain⟩, ⟨10, .guard⟩], some (10, false)⟩ ?_ ?_ ?_
        rotate_left
        · (intro w_ hS_; (try dsimp only at hS_); go_simp; try with_reducible rfl)
        try simp only [Act.put, List.setIfInBounds_toArray, List.set_cons_zero, List.set_cons_succ]
        refine tk 14 ⟨some 83, .move (.tmp 15), 3, "law.go:220", #[⟨13, .guard⟩], some (13, true)⟩ ?_ ?_ ?_
        rotate_left
        · (intro w_ hS_; (try dsimp only at hS_); go_simp; try with_reducible rfl)
        try simp only [Act.put, List.setIfInBounds_toArray, List.set_cons_zero, List.set_cons_succ]
        refine tk 15 ⟨some 84, .binOp .lss 3 (.tmp 83) (.const (.int .i64 0)) 3, 4, "law.go:220", #[⟨14, .data⟩, ⟨13, .guard⟩], some (13, true)⟩ ?_ ?_ ?_
        rotate_left
        · (intro w_ hS_; (try dsimp only at hS_); go_simp; try with_reducible rfl)
        try simp only [Act.put, List.setIfInBounds_toArray, List.set_cons_zero, List.set_cons_succ]
        refine tk 16 ⟨some 85, .pick (.tmp 82) (.tmp 84) (.const (.bool false)), 4, "law.go:220", #[⟨13, .data⟩, ⟨15, .data⟩, ⟨10, .guard⟩], some (10, false)⟩ ?_ ?_ ?_
        rotate_left
        · (intro w_ hS_; (try dsimp only at hS_); go_simp; try with_reducible rfl)
        try simp only [Act.put, List.setIfInBounds_toArray, List.set_cons_zero, List.set_cons_succ]
        refine tk 17 ⟨some 86, .pick (.tmp 79) (.const (.bool true)) (.tmp 85), 4, "law.go:220", #[⟨10, .data⟩, ⟨16, .data⟩], none⟩ ?_ ?_ ?_
        rotate_left
        · (intro w_ hS_; (try dsimp only at hS_); go_simp; try with_reducible rfl)
        try simp only [Act.put, List.setIfInBounds_toArray, List.set_cons_zero, List.set_cons_succ]
        refine wpAnyH_done (by kernel_rfl) ?_ _
        (try dsimp only at hHeld)
        go_split_ands
        go_wp2_with fail
        refine (HD.out _ (by go_simp) (by go_simp) (by go_simp) (by go_simp)).mono ?_
        rintro e v5 ⟨rfl, ⟨V_5, V_5'⟩, ⟨L_5, L_5'⟩, hA5⟩
        obtain ⟨F_5, F_5'⟩ : Row v5 gF #[.int .i64 m, .int .i64 p0, .int .i64 p1, .bool o0, .bool o1, .bool true, .int .u32 a, .int .u32 b] := hA5.row ⟨by go_simp, by go_simp⟩ (by omega) (by omega)
        obtain ⟨E1_5, E1_5'⟩ : Row v5 v3.heap.size #[.bool false, .int .i64 (-1)] := hA5.row ⟨by go_simp, by go_simp⟩ (by omega) (by omega)
        have hB_5 : Below w.heap.size w v5 := hA5.below (by go_simp) (by first | omega | (go_simp; done) | (go_simp; omega)) (by first | omega | (go_simp; done) | (go_simp; omega)) (by first | (go_simp; done) | (go_simp; omega) | exact Below.size (by assumption))
        clear  hA5
        have hz_5 : w.heap.size ≤ v5.heap.size := hB_5.size
        have hl_V_5 := isRow.lt V_5
        have ne_V_5_0 : ¬ gv = v5.heap.size := by omega
        have en_V_5_0 : ¬ v5.heap.size = gv := by omega
        have ne_V_5_1 : ¬ gv = v5.heap.size + 1 := by omega
        have en_V_5_1 : ¬ v5.heap.size + 1 = gv := by omega
        have hl_L_5 := isRow.lt L_5
        have ne_L_5_0 : ¬ lv = v5.heap.size := by omega
        have en_L_5_0 : ¬ v5.heap.size = lv := by omega
        have ne_L_5_1 : ¬ lv = v5.heap.size + 1 := by omega
        have en_L_5_1 : ¬ v5.heap.size + 1 = lv := by omega
        have hl_F_5 := isRow.lt F_5
        have ne_F_5_0 : ¬ gF = v5.heap.size := by omega
        have en_F_5_0 : ¬ v5.heap.size = gF := by omega
        have ne_F_5_1 : ¬ gF = v5.heap.size + 1 := by omega
        have en_F_5_1 : ¬ v5.heap.size + 1 = gF := by omega
        have hl_E1_5 := isRow.lt E1_5
        have ne_E1_5_0 : ¬ v3.heap.size = v5.heap.size := by omega
        have en_E1_5_0 : ¬ v5.heap.size = v3.heap.size := by omega
        have ne_E1_5_1 : ¬ v3.heap.size = v5.heap.size + 1 := by omega
        have en_E1_5_1 : ¬ v5.heap.size + 1 = v3.heap.size := by omega
        go_wp2_with fail
        have ne_V_E2 : ¬ gv = v5.heap.size := by omega
        have en_V_E2 : ¬ v5.heap.size = gv := by omega
        have ne_L_E2 : ¬ lv = v5.heap.size := by omega
        have en_L_E2 : ¬ v5.heap.size = lv := by omega
        have ne_F_E2 : ¬ gF = v5.heap.size := by omega
        have en_F_E2 : ¬ v5.heap.size = gF := by omega
        have ne_E1_E2 : ¬ v3.heap.size = v5.heap.size := by omega
        have en_E1_E2 : ¬ v5.heap.size = v3.heap.size := by omega
        refine wp_named (fun W_ => (isRow W_ gv ∧ rowAt W_ gv = #[.int .i64 m, .int .i64 p0, .int .i64 p1, .bool o0, .bool o1, .bool true, .int .u32 a, .int .u32 b, .slice (some ⟨lv, 0, none⟩) ys.length ys.length, .int .i64 lost]) ∧ (isRow W_ lv ∧ rowAt W_ lv = (FA (setSt (setSt ys k 2) k 0))) ∧ (isRow W_ gF ∧ rowAt W_ gF = #[.int .i64 m, .int .i64 p0, .int .i64 p1, .bool o0, .bool o1, .bool true, .int .u32 a, .int .u32 b]) ∧ (isRow W_ v3.heap.size ∧ rowAt W_ v3.heap.size = #[.bool false, .int .i64 (-1)]) ∧ (isRow W_ v5.heap.size ∧ rowAt W_ v5.heap.size = #[.bool true, .int .i64 MM]) ∧ Below w.heap.size w W_) (by refine ⟨⟨by go_simp, by go_simp⟩, ⟨by go_simp, by go_simp⟩, ⟨by go_simp, by go_simp⟩, ⟨by go_simp, by go_simp⟩, ⟨by go_simp, by go_simp⟩, by go_simp⟩) ?_
        rintro v6 ⟨⟨V_6, V_6'⟩, ⟨L_6, L_6'⟩, ⟨F_6, F_6'⟩, ⟨E1_6, E1_6'⟩, ⟨E2_6, E2_6'⟩, hB_6⟩
        clear V_5 V_5' L_5 L_5' F_5 F_5' E1_5 E1_5' hB_5
        have hz_6 : w.heap.size ≤ v6.heap.size := hB_6.size
        have hl_V_6 := isRow.lt V_6
        have ne_V_6_0 : ¬ gv = v6.heap.size := by omega
        have en_V_6_0 : ¬ v6.heap.size = gv := by omega
        have ne_V_6_1 : ¬ gv = v6.heap.size + 1 := by omega
        have en_V_6_1 : ¬ v6.heap.size + 1 = gv := by omega
        have hl_L_6 := isRow.lt L_6
        have ne_L_6_0 : ¬ lv = v6.heap.size := by omega
        have en_L_6_0 : ¬ v6.heap.size = lv := by omega
        have ne_L_6_1 : ¬ lv = v6.heap.size + 1 := by omega
        have en_L_6_1 : ¬ v6.heap.size + 1 = lv := by omega
        have hl_F_6 := isRow.lt F_6
        have ne_F_6_0 : ¬ gF = v6.heap.size := by omega
        have en_F_6_0 : ¬ v6.heap.size = gF := by omega
        have ne_F_6_1 : ¬ gF = v6.heap.size + 1 := by omega
        have en_F_6_1 : ¬ v6.heap.size + 1 = gF := by omega
        have hl_E1_6 := isRow.lt E1_6
        have ne_E1_6_0 : ¬ v3.heap.size = v6.heap.size := by omega
        have en_E1_6_0 : ¬ v6.heap.size = v3.heap.size := by omega
        have ne_E1_6_1 : ¬ v3.heap.size = v6.heap.size + 1 := by omega
        have en_E1_6_1 : ¬ v6.heap.size + 1 = v3.heap.size := by omega
        have hl_E2_6 := isRow.lt E2_6
        have ne_E2_6_0 : ¬ v5.heap.size = v6.heap.size := by omega
        have en_E2_6_0 : ¬ v6.heap.size = v5.heap.size := by omega
        have ne_E2_6_1 : ¬ v5.heap.size = v6.heap.size + 1 := by omega
        have en_E2_6_1 : ¬ v6.heap.size + 1 = v5.heap.size := by omega
        refine wp_region_held_drew (S := fun w' => isRow w' gv ∧ rowAt w' gv = #[.int .i64 m, .int .i64 p0, .int .i64 p1, .bool o0, .bool o1, .bool true, .int .u32 a, .int .u32 b, .slice (some ⟨lv, 0, none⟩) ys.length ys.length, .int .i64 lost] ∧ isRow w' lv ∧ rowAt w' lv = (FA (setSt (setSt ys k 2) k 0)) ∧ isRow w' gF ∧ rowAt w' gF = #[.int .i64 m, .int .i64 p0, .int .i64 p1, .bool o0, .bool o1, .bool true, .int .u32 a, .int .u32 b] ∧ isRow w' v3.heap.size ∧ rowAt w' v3.heap.size = #[.bool false, .int .i64 (-1)] ∧ isRow w' v5.heap.size ∧ rowAt w' v5.heap.size = #[.bool true, .int .i64 MM] ∧ Below w.heap.size w w') (by kernel_rfl) ⟨V_6, V_6', L_6, L_6', F_6, F_6', E1_6, E1_6', E2_6, E2_6', below_drew0 hB_6⟩ (fun hHeld => ?_)
        refine tk 0 ⟨some 90, .move (.tmp 14), 3, "law.go:224", #[], none⟩ ?_ ?_ ?_
        rotate_left
        · (intro w_ hS_; (try dsimp only at hS_); go_simp; try with_reducible rfl)
        try simp only [Act.put, List.setIfInBounds_toArray, List.set_cons_zero, List.set_cons_succ]
        refine tk 1 ⟨some 91, .binOp .geq 3 (.tmp 90) (.const (.int .i64 8192)) 3, 4, "law.go:224", #[⟨0, .data⟩], none⟩ ?_ ?_ ?_
        rotate_left
        · (intro w_ hS_; (try dsimp only at hS_); go_simp; try with_reducible rfl)
        try simp only [Act.put, List.setIfInBounds_toArray, List.set_cons_zero, List.set_cons_succ]
        refine tk 2 ⟨some 92, .move (.tmp 91), 4, "law.go:224", #[⟨1, .data⟩], none⟩ ?_ ?_ ?_
        rotate_left
        · (intro w_ hS_; (try dsimp only at hS_); go_simp; try with_reducible rfl)
        try simp only [Act.put, List.setIfInBounds_toArray, List.set_cons_zero, List.set_cons_succ]
        refine tu 3 ⟨some 93, .fieldAddr 57 (.tmp 17) 0, 0, "law.go:224", #[⟨2, .guard⟩], some (2, true)⟩ ?_
        try simp only [Act.put, List.setIfInBounds_toArray, List.set_cons_zero, List.set_cons_succ]
        refine tu 4 ⟨some 94, .load 4 (.tmp 93), 4, "law.go:224", #[⟨3, .data⟩, ⟨2, .guard⟩], some (2, true)⟩ ?_
        try simp only [Act.put, List.setIfInBounds_toArray, List.set_cons_zero, List.set_cons_succ]
        refine tu 5 ⟨some 95, .unOp .not 4 (.tmp 94), 4, "law.go:224", #[⟨4, .data⟩, ⟨2, .guard⟩], some (2, true)⟩ ?_
        try simp only [Act.put, List.setIfInBounds_toArray, List.set_cons_zero, List.set_cons_succ]
        refine tk 6 ⟨some 96, .pick (.tmp 92) (.tmp 95) (.const (.bool false)), 4, "law.go:224", #[⟨2, .data⟩, ⟨5, .data⟩], none⟩ ?_ ?_ ?_
        rotate_left
        · (intro w_ hS_; (try dsimp only at hS_); go_simp; try with_reducible rfl)
        try simp only [Act.put, List.setIfInBounds_toArray, List.set_cons_zero, List.set_cons_succ]
        refine tk 7 ⟨some 97, .move (.tmp 96), 4, "law.go:224", #[⟨6, .data⟩, ⟨2, .chain⟩], none⟩ ?_ ?_ ?_
        rotate_left
        · (intro w_ hS_; (try dsimp only at hS_); go_simp; try with_reducible rfl)
        try simp only [Act.put, List.setIfInBounds_toArray, List.set_cons_zero, List.set_cons_succ]
        refine tu 8 ⟨some 98, .move (.tmp 10), 24, "law.go:224", #[⟨7, .guard⟩], some (7, true)⟩ ?_
        try simp only [Act.put, List.setIfInBounds_toArray, List.set_cons_zero, List.set_cons_succ]
        refine tu 9 ⟨some 99, .nilCheck (.tmp 98), 0, "law.go:224", #[⟨8, .data⟩, ⟨7, .guard⟩], some (7, true)⟩ ?_
        try simp only [Act.put, List.setIfInBounds_toArray, List.set_cons_zero, List.set_cons_succ]
        refine tu 10 ⟨some 100, .fieldAddr 37 (.tmp 99) 2, 0, "law.go:224", #[⟨9, .data⟩, ⟨7, .guard⟩], some (7, true)⟩ ?_
        try simp only [Act.put, List.setIfInBounds_toArray, List.set_cons_zero, List.set_cons_succ]
        refine tu 11 ⟨some 101, .load 3 (.tmp 100), 3, "law.go:224", #[⟨10, .data⟩, ⟨7, .guard⟩], some (7, true)⟩ ?_
        try simp only [Act.put, List.setIfInBounds_toArray, List.set_cons_zero, List.set_cons_succ]
        refine tu 12 ⟨some 102, .move (.tmp 13), 3, "law.go:224", #[⟨7, .guard⟩], some (7, true)⟩ ?_
        try simp only [Act.put, List.setIfInBounds_toArray, List.set_cons_zero, List.set_cons_succ]
        refine tu 13 ⟨some 103, .binOp .eql 3 (.tmp 101) (.tmp 102) 3, 4, "law.go:224", #[⟨11, .data⟩, ⟨12, .data⟩, ⟨7, .guard⟩], some (7, true)⟩ ?_
        try simp only [Act.put, List.setIfInBounds_toArray, List.set_cons_zero, List.set_cons_succ]
        refine tk 14 ⟨some 104, .pick (.tmp 97) (.tmp 103) (.const (.bool false)), 4, "law.go:224", #[⟨7, .data⟩, ⟨13, .data⟩], none⟩ ?_ ?_ ?_
        rotate_left
        · (intro w_ hS_; (try dsimp only at hS_); go_simp; try with_reducible rfl)
        try simp only [Act.put, List.setIfInBounds_toArray, List.set_cons_zero, List.set_cons_succ]
        refine tk 15 ⟨some 105, .move (.tmp 104), 4, "law.go:224", #[⟨14, .data⟩, ⟨7, .chain⟩], none⟩ ?_ ?_ ?_
        rotate_left
        · (intro w_ hS_; (try dsimp only at hS_); go_simp; try with_reducible rfl)
        try simp only [Act.put, List.setIfInBounds_toArray, List.set_cons_zero, List.set_cons_succ]
        refine tk 16 ⟨some 106, .move (.tmp 14), 3, "law.go:224", #[⟨15, .guard⟩], some (15, false)⟩ ?_ ?_ ?_
        rotate_left
        · (intro w_ hS_; (try dsimp only at hS_); go_simp; try with_reducible rfl)
        try simp only [Act.put, List.setIfInBounds_toArray, List.set_cons_zero, List.set_cons_succ]
        refine tk 17 ⟨some 107, .binOp .lss 3 (.tmp 106) (.const (.int .i64 8192)) 3, 4, "law.go:224", #[⟨16, .data⟩, ⟨15, .guard⟩], some (15, false)⟩ ?_ ?_ ?_
        rotate_left
        · (intro w_ hS_; (try dsimp only at hS_); go_simp; try with_reducible rfl)
        try simp only [Act.put, List.setIfInBounds_toArray, List.set_cons_zero, List.set_cons_succ]
        refine tk 18 ⟨some 108, .move (.tmp 107), 4, "law.go:224", #[⟨17, .data⟩, ⟨15, .chain⟩, ⟨15, .guard⟩], some (15, false)⟩ ?_ ?_ ?_
        rotate_left
        · (intro w_ hS_; (try dsimp only at hS_); go_simp; try with_reducible rfl)
        try simp only [Act.put, List.setIfInBounds_toArray, List.set_cons_zero, List.set_cons_succ]
        refine tk 19 ⟨some 109, .fieldAddr 57 (.tmp 17) 0, 0, "law.go:224", #[⟨18, .guard⟩], some (18, true)⟩ ?_ ?_ ?_
        rotate_left
        · (intro w_ hS_; (try dsimp only at hS_); go_simp; try with_reducible rfl)
        try simp only [Act.put, List.setIfInBounds_toArray, List.set_cons_zero, List.set_cons_succ]
        refine tk 20 ⟨some 110, .load 4 (.tmp 109), 4, "law.go:224", #[⟨19, .data⟩, ⟨18, .guard⟩], some (18, true)⟩ ?_ ?_ ?_
        rotate_left
        · (intro w_ hS_; (try dsimp only at hS_); go_simp; try with_reducible rfl)
        try simp only [Act.put, List.setIfInBounds_toArray, List.set_cons_zero, List.set_cons_succ]
        refine tk 21 ⟨some 111, .pick (.tmp 108) (.tmp 110) (.const (.bool false)), 4, "law.go:224", #[⟨18, .data⟩, ⟨20, .data⟩, ⟨15, .guard⟩], some (15, false)⟩ ?_ ?_ ?_
        rotate_left
        · (intro w_ hS_; (try dsimp only at hS_); go_simp; try with_reducible rfl)
        try simp only [Act.put, List.setIfInBounds_toArray, List.set_cons_zero, List.set_cons_succ]
        refine tk 22 ⟨some 112, .move (.tmp 111), 4, "law.go:224", #[⟨21, .data⟩, ⟨18, .chain⟩, ⟨15, .guard⟩], some (15, false)⟩ ?_ ?_ ?_
        rotate_left
        · (intro w_ hS_; (try dsimp only at hS_); go_simp; try with_reducible rfl)
        try simp only [Act.put, List.setIfInBounds_toArray, List.set_cons_zero, List.set_cons_succ]
        refine tk 23 ⟨some 113, .move (.tmp 10), 24, "law.go:224", #[⟨22, .guard⟩], some (22, true)⟩ ?_ ?_ ?_
        rotate_left
        · (intro w_ hS_; (try dsimp only at hS_); go_simp; try with_reducible rfl)
        try simp only [Act.put, List.setIfInBounds_toArray, List.set_cons_zero, List.set_cons_succ]
        refine tk 24 ⟨some 114, .nilCheck (.tmp 113), 0, "law.go:224", #[⟨23, .data⟩, ⟨22, .guard⟩], some (22, true)⟩ ?_ ?_ ?_
        rotate_left
        · (intro w_ hS_; (try dsimp only at hS_); go_simp; try with_reducible rfl)
        try simp only [Act.put, List.setIfInBounds_toArray, List.set_cons_zero, List.set_cons_succ]
        refine tk 25 ⟨some 115, .fieldAddr 37 (.tmp 114) 1, 0, "law.go:224", #[⟨24, .data⟩, ⟨22, .guard⟩], some (22, true)⟩ ?_ ?_ ?_
        rotate_left
        · (intro w_ hS_; (try dsimp only at hS_); go_simp; try with_reducible rfl)
        try simp only [Act.put, List.setIfInBounds_toArray, List.set_cons_zero, List.set_cons_succ]
        refine tk 26 ⟨some 116, .load 22 (.tmp 115), 22, "law.go:224", #[⟨25, .data⟩, ⟨22, .guard⟩], some (22, true)⟩ ?_ ?_ ?_
        rotate_left
        · (intro w_ hS_; (try dsimp only at hS_); go_simp; try with_reducible rfl)
        try simp only [Act.put, List.setIfInBounds_toArray, List.set_cons_zero, List.set_cons_succ]
        refine tk 27 ⟨some 117, .move (.tmp 14), 3, "law.go:224", #[⟨22, .guard⟩], some (22, true)⟩ ?_ ?_ ?_
        rotate_left
        · (intro w_ hS_; (try dsimp only at hS_); go_simp; try with_reducible rfl)
        try simp only [Act.put, List.setIfInBounds_toArray, List.set_cons_zero, List.set_cons_succ]
        refine wpAnyH_ready (rs := [28]) (by kernel_rfl) (by simp) ?_
        refine AllReadyH.cons (o := ⟨some 118, .call ⟨.value (.func 22), #[.tmp 116, .tmp 117], #[22, 3]⟩, 3, "law.go:224", #[⟨26, .data⟩, ⟨27, .data⟩, ⟨22, .chain⟩, ⟨22, .guard⟩], some (22, true)⟩) rfl (fun K hK => ?_) AllReadyH.nil
        go_simp
        (have hq_ := hHeld; (try dsimp only at hq_); go_split_ands)
        refine (HF2.out _ (by assumption) (by assumption)).mono ?_
        rintro e w4 ⟨rfl, hb⟩
        refine hK.out _ _ ?_ (fun hHeld => ?_)
        · (go_split_ands; exact ⟨rk1 (by assumption) hb, rk2 (by assumption) (by assumption) hb, rk1 (by assumption) hb, rk2 (by assumption) (by assumption) hb, rk1 (by assumption) hb, rk2 (by assumption) (by assumption) hb, rk1 (by assumption) hb, rk2 (by assumption) (by assumption) hb, rk1 (by assumption) hb, rk2 (by assumption) (by assumption) hb, bk (by assumption) (Below.size (by assumption)) hb⟩)
        clear hK K
        try simp only [Act.put, List.setIfInBounds_toArray, List.set_cons_zero, List.set_cons_succ]
        refine tk 29 ⟨some 119, .binOp .lss 3 (.tmp 118) (.const (.int .i64 0)) 3, 4, "law.go:224", #[⟨28, .data⟩, ⟨22, .guard⟩], some (22, true)⟩ ?_ ?_ ?_
        rotate_left
        · (intro w_ hS_; (try dsimp only at hS_); go_simp; try with_reducible rfl)
        try simp only [Act.put, List.setIfInBounds_toArray, List.set_cons_zero, List.set_cons_succ]
        refine tk 30 ⟨some 120, .pick (.tmp 112) (.tmp 119) (.const (.bool false)), 4, "law.go:224", #[⟨22, .data⟩, ⟨29, .data⟩, ⟨15, .guard⟩], some (15, false)⟩ ?_ ?_ ?_
        rotate_left
        · (intro w_ hS_; (try dsimp only at hS_); go_simp; try with_reducible rfl)
        try simp only [Act.put, List.setIfInBounds_toArray, List.set_cons_zero, List.set_cons_succ]
        refine tk 31 ⟨some 121, .move (.tmp 120), 4, "law.go:224", #[⟨30, .data⟩, ⟨28, .chain⟩, ⟨15, .guard⟩], some (15, false)⟩ ?_ ?_ ?_
        rotate_left
        · (intro w_ hS_; (try dsimp only at hS_); go_simp; try with_reducible rfl)
        try simp only [Act.put, List.setIfInBounds_toArray, List.set_cons_zero, List.set_cons_succ]
        refine tk 32 ⟨some 122, .move (.tmp 10), 24, "law.go:224", #[⟨31, .guard⟩], some (31, true)⟩ ?_ ?_ ?_
        rotate_left
        · (intro w_ hS_; (try dsimp only at hS_); go_simp; try with_reducible rfl)
        try simp only [Act.put, List.setIfInBounds_toArray, List.set_cons_zero, List.set_cons_succ]
        refine tk 33 ⟨some 123, .nilCheck (.tmp 122), 0, "law.go:224", #[⟨32, .data⟩, ⟨31, .guard⟩], some (31, true)⟩ ?_ ?_ ?_
        rotate_left
        · (intro w_ hS_; (try dsimp only at hS_); go_simp; try with_reducible rfl)
        try simp only [Act.put, List.setIfInBounds_toArray, List.set_cons_zero, List.set_cons_succ]
        refine tk 34 ⟨some 124, .fieldAddr 37 (.tmp 123) 1, 0, "law.go:224", #[⟨33, .data⟩, ⟨31, .guard⟩], some (31, true)⟩ ?_ ?_ ?_
        rotate_left
        · (intro w_ hS_; (try dsimp only at hS_); go_simp; try with_reducible rfl)
        try simp only [Act.put, List.setIfInBounds_toArray, List.set_cons_zero, List.set_cons_succ]
        refine tk 35 ⟨some 125, .load 22 (.tmp 124), 22, "law.go:224", #[⟨34, .data⟩, ⟨31, .guard⟩], some (31, true)⟩ ?_ ?_ ?_
        rotate_left
        · (intro w_ hS_; (try dsimp only at hS_); go_simp; try with_reducible rfl)
        try simp only [Act.put, List.setIfInBounds_toArray, List.set_cons_zero, List.set_cons_succ]
        refine tk 36 ⟨some 126, .move (.tmp 15), 3, "law.go:224", #[⟨31, .guard⟩], some (31, true)⟩ ?_ ?_ ?_
        rotate_left
        · (intro w_ hS_; (try dsimp only at hS_); go_simp; try with_reducible rfl)
        try simp only [Act.put, List.setIfInBounds_toArray, List.set_cons_zero, List.set_cons_succ]
        refine tk 37 ⟨some 127, .indexAddr 22 (.tmp 125) (.tmp 126), 0, "law.go:224", #[⟨35, .data⟩, ⟨36, .data⟩, ⟨31, .guard⟩], some (31, true)⟩ ?_ ?_ ?_
        rotate_left
        · (intro w_ hS_; (try dsimp only at hS_); go_simp; try with_reducible rfl)
        try simp only [Act.put, List.setIfInBounds_toArray, List.set_cons_zero, List.set_cons_succ]
        refine tk 38 ⟨some 128, .load 54 (.tmp 127), 54, "law.go:224", #[⟨37, .data⟩, ⟨31, .guard⟩], some (31, true)⟩ ?_ ?_ ?_
        rotate_left
        · (intro w_ hS_; (try dsimp only at hS_); go_simp; try with_reducible rfl)
        try simp only [Act.put, List.setIfInBounds_toArray, List.set_cons_zero, List.set_cons_succ]
        refine tk 39 ⟨some 129, .load 57 (.tmp 17), 57, "law.go:224", #[⟨31, .guard⟩], some (31, true)⟩ ?_ ?_ ?_
        rotate_left
        · (intro w_ hS_; (try dsimp only at hS_); go_simp; try with_reducible rfl)
        try simp only [Act.put, List.setIfInBounds_toArray, List.set_cons_zero, List.set_cons_succ]
        refine wpAnyH_ready (rs := [40]) (by kernel_rfl) (by simp) ?_
        refine AllReadyH.cons (o := ⟨some 130, .call ⟨.value (.func 25), #[.tmp 128, .tmp 129], #[54, 57]⟩, 4, "law.go:224", #[⟨38, .data⟩, ⟨39, .data⟩, ⟨31, .chain⟩, ⟨31, .guard⟩], some (31, true)⟩) rfl (fun K hK => ?_) AllReadyH.nil
        go_simp
        (have hq_ := hHeld; (try dsimp only at hq_); go_split_ands)
        refine (HED.out _).mono ?_
        rintro e w4 ⟨rfl, hb⟩
        refine hK.out _ _ ?_ (fun hHeld => ?_)
        · (go_split_ands; exact ⟨rk1 (by assumption) hb, rk2 (by assumption) (by assumption) hb, rk1 (by assumption) hb, rk2 (by assumption) (by assumption) hb, rk1 (by assumption) hb, rk2 (by assumption) (by assumption) hb, rk1 (by assumption) hb, rk2 (by assumption) (by assumption) hb, rk1 (by assumption) hb, rk2 (by assumption) (by assumption) hb, bk (by assumption) (Below.size (by assumption)) hb⟩)
        clear hK K
        try simp only [Act.put, List.setIfInBounds_toArray, List.set_cons_zero, List.set_cons_succ]
        refine tk 41 ⟨some 131, .pick (.tmp 121) (.tmp 130) (.const (.bool false)), 4, "law.go:224", #[⟨31, .data⟩, ⟨40, .data⟩, ⟨15, .guard⟩], some (15, false)⟩ ?_ ?_ ?_
        rotate_left
        · (intro w_ hS_; (try dsimp only at hS_); go_simp; try with_reducible rfl)
        try simp only [Act.put, List.setIfInBounds_toArray, List.set_cons_zero, List.set_cons_succ]
        refine tk 42 ⟨some 132, .pick (.tmp 105) (.const (.bool true)) (.tmp 131), 4, "law.go:224", #[⟨15, .data⟩, ⟨41, .data⟩], none⟩ ?_ ?_ ?_
        rotate_left
        · (intro w_ hS_; (try dsimp only at hS_); go_simp; try with_reducible rfl)
        try simp only [Act.put, List.setIfInBounds_toArray, List.set_cons_zero, List.set_cons_succ]
        refine tk 43 ⟨some 8, .assign (.tmp 132), 4, "law.go:224", #[⟨42, .data⟩, ⟨40, .chain⟩, ⟨0, .phase⟩, ⟨1, .phase⟩, ⟨2, .phase⟩, ⟨3, .phase⟩, ⟨4, .phase⟩, ⟨5, .phase⟩, ⟨6, .phase⟩, ⟨7, .phase⟩, ⟨8, .phase⟩, ⟨9, .phase⟩, ⟨10, .phase⟩, ⟨11, .phase⟩, ⟨12, .phase⟩, ⟨13, .phase⟩, ⟨14, .phase⟩, ⟨15, .phase⟩, ⟨16, .phase⟩, ⟨17, .phase⟩, ⟨18, .phase⟩, ⟨19, .phase⟩, ⟨20, .phase⟩, ⟨21, .phase⟩, ⟨22, .phase⟩, ⟨23, .phase⟩, ⟨24, .phase⟩, ⟨25, .phase⟩, ⟨26, .phase⟩, ⟨27, .phase⟩, ⟨28, .phase⟩, ⟨29, .phase⟩, ⟨30, .phase⟩, ⟨31, .phase⟩, ⟨32, .phase⟩, ⟨33, .phase⟩, ⟨34, .phase⟩, ⟨35, .phase⟩, ⟨36, .phase⟩, ⟨37, .phase⟩, ⟨38, .phase⟩, ⟨39, .phase⟩, ⟨40, .phase⟩, ⟨41, .phase⟩, ⟨42, .phase⟩], none⟩ ?_ ?_ ?_
        rotate_left
        · (intro w_ hS_; (try dsimp only at hS_); go_simp; try with_reducible rfl)
        try simp only [Act.put, List.setIfInBounds_toArray, List.set_cons_zero, List.set_cons_succ]
        refine wpAnyH_done (by kernel_rfl) ?_ _
        (try dsimp only at hHeld)
        go_split_ands
        go_wp2
        go_ret
        exact ⟨rfl, by assumption⟩
    | false =>
      by_cases hid : 8192 ≤ id
      · skip
        have hA : ∀ W, isRow W gv → rowAt W gv = #[.int .i64 m, .int .i64 p0, .int .i64 p1, .bool o0, .bool o1, .bool false, .int .u32 a, .int .u32 b, .slice (some ⟨lv, 0, none⟩) ys.length ys.length, .int .i64 lost] → isRow W lv → rowAt W lv = FA ys → Calls Try.prog 17 #[.pointer (some ⟨gv, 0, none⟩), .int .i64 gp] W fun e w' => e = .returned (.int .i64 id) ∧ Row w' gv #[.int .i64 m, .int .i64 p0, .int .i64 p1, .bool o0, .bool o1, .bool false, .int .u32 (setA .or a gp (levP p0 p1 (best ys).pr gp)), .int .u32 (setB .or b gp (levP p0 p1 (best ys).pr gp)), .slice (some ⟨lv, 0, none⟩) ys.length ys.length, .int .i64 lost] ∧ Row w' lv (FA (setSt ys k 0)) ∧ Aside2 gv lv W w' := fun W q1 q2 q3 q4 => by
          have q := ack_c gv lv m p0 p1 o0 o1 false a b ys h16 lost gp n12 W q1 q2 q3 q4
          unfold ackId ackXs ackA ackB at q
          rw [hbe] at q
          rw [if_pos hT, if_pos hT, if_pos hT, if_pos hT, hf, Int.toNat_natCast, if_pos hid] at q
          exact q
        obtain ⟨hd1, hd2, hd3⟩ := ends_lad hW.a hW.b hT hpr0 hpr1 hpr8 hgp
        have hl1 : ((setSt ys k 0)).length = ys.length := setSt_length _ _ _
        have hst1 : stOk (setSt ys k 0) := stOk_set hst k 0 (by decide)
        have hf1 : findOf (setSt ys k 0) id = -1 := find_gone hG.uq hk (by rw [q0]; decide) q1
        obtain ⟨he1, he2, he3, he4⟩ := end_hi hf1 hid lost
        have hf2 := hf1
        have hl2 := hl1
        have hE : ∀ W, isRow W gv → rowAt W gv = #[.int .i64 m, .int .i64 p0, .int .i64 p1, .bool o0, .bool o1, .bool false, .int .u32 (setA .or a gp (levP p0 p1 (best ys).pr gp)), .int .u32 (setB .or b gp (levP p0 p1 (best ys).pr gp)), .slice (some ⟨lv, 0, none⟩) ys.length ys.length, .int .i64 lost] → isRow W lv → rowAt W lv = FA (setSt ys k 0) → Calls Try.prog 23 #[.pointer (some ⟨gv, 0, none⟩), .int .i64 gp, .int .i64 id] W fun e w' => e = .returned (.agg #[.bool false, .int .i64 (-1)]) ∧ Row w' gv #[.int .i64 m, .int .i64 p0, .int .i64 p1, .bool o0, .bool o1, .bool false, .int .u32 a, .int .u32 b, .slice (some ⟨lv, 0, none⟩) ys.length ys.length, .int .i64 lost] ∧ Row w' lv (FA (setSt ys k 0)) ∧ Aside2 gv lv W w' := fun W q1 q2 q3 q4 => by
          have q := eoi_c gv lv m p0 p1 o0 o1 false (setA .or a gp (levP p0 p1 (best ys).pr gp)) (setB .or b gp (levP p0 p1 (best ys).pr gp)) (setSt ys k 0) (by rw [hl1]; exact h16) hst1 lost gp id hlo hhi n12 W q1 (by rw [hl1]; exact q2) q3 q4
          unfold eoiGo eoiA eoiB gOk gM gXs gLost at q
          rw [hl1, hre, hd1, hd2, hd3] at q
          simp only [Bool.not_false, Bool.and_self, if_true] at q
          rw [he1, he2, he3, he4] at q
          exact q
        have HF1 := Lib.hid (fun (W : World) (h : isRow W lv) (h' : rowAt W lv = FA (setSt ys k 0)) => find_n hl1 h16 h h' hf1)
        have HF2 := Lib.hid (fun (W : World) (h : isRow W lv) (h' : rowAt W lv = FA (setSt ys k 0)) => find_n hl2 h16 h h' hf2)
        have HA := Lib.hid hA
        have HE := Lib.hid hE
        generalize hA2 : (setA .or a gp (levP p0 p1 (best ys).pr gp)) = a2 at *
        generalize hB2 : (setB .or b gp (levP p0 p1 (best ys).pr gp)) = b2 at *
        clear hA hE hd1 hd2 hd3 hA2 hB2 he1 he2 he3 he4 hf1 hf2 hst1 hT hf hG hW hgp hre hl1 hl2 hpr0 hpr1 hpr8 hbe
        have hid1 : decide (id < 8192) = false := decide_eq_false (by omega)
        have hid2 : decide (8192 ≤ id) = true := decide_eq_true hid
        clear q0 q1
        have hsz1 := isRow.lt V0
        have hsz2 := isRow.lt L0
        have hsz3 := hB0.size
        have ne_V_F : ¬ gv = v0.heap.size := by omega
        have en_V_F : ¬ v0.heap.size = gv := by omega
        have ne_L_F : ¬ lv = v0.heap.size := by omega
        have en_L_F : ¬ v0.heap.size = lv := by omega
        go_upto_region 8 with fail
        go_cut [12, 13] (fun s12 s13 wx => s12 = .pointer (some ⟨v0.heap.size, 0, none⟩) ∧ s13 = .int .i64 lost ∧ (isRow wx gv ∧ rowAt wx gv = #[.int .i64 m, .int .i64 p0, .int .i64 p1, .bool o0, .bool o1, .bool false, .int .u32 a, .int .u32 b, .slice (some ⟨lv, 0, none⟩) ys.length ys.length, .int .i64 lost]) ∧ (isRow wx lv ∧ rowAt wx lv = FA ys) ∧ (isRow wx v0.heap.size ∧ rowAt wx v0.heap.size = #[.int .i64 m, .int .i64 p0, .int .i64 p1, .bool o0, .bool o1, .bool false, .int .u32 a, .int .u32 b]) ∧ Below w.heap.size w wx)
        case first =>
          go_region
          all_goals
            go_wp2_with fail
            go_meet
            exact ⟨rfl, rfl, ⟨by go_simp, by go_simp⟩, ⟨by go_simp, by go_simp⟩, ⟨by go_simp, by go_simp⟩, by go_simp⟩
        obtain ⟨rfl, rfl, ⟨VZ, VZ'⟩, ⟨LZ, LZ'⟩, ⟨FZ, FZ'⟩, hBZ⟩ := hcut
        have hsz4 := isRow.lt FZ
        generalize hgF : v0.heap.size = gF at *
        clear hB0 V0 V0' L0 L0' hgF
        have hsz5 := hBZ.size
        go_wp2_with fail
        refine (HA.out _ (by go_simp) (by go_simp) (by go_simp) (by go_simp)).mono ?_
        rintro e v1 ⟨rfl, ⟨V_1, V_1'⟩, ⟨L_1, L_1'⟩, hA1⟩
        obtain ⟨F_1, F_1'⟩ : Row v1 gF #[.int .i64 m, .int .i64 p0, .int .i64 p1, .bool o0, .bool o1, .bool false, .int .u32 a, .int .u32 b] := hA1.row ⟨by go_simp, by go_simp⟩ (by omega) (by omega)
        have hB_1 : Below w.heap.size w v1 := hA1.below (by go_simp) (by first | omega | (go_simp; done) | (go_simp; omega)) (by first | omega | (go_simp; done) | (go_simp; omega)) (by first | (go_simp; done) | (go_simp; omega) | exact Below.size (by assumption))
        clear VZ VZ' LZ LZ' FZ FZ' hBZ hA1
        have hz_1 : w.heap.size ≤ v1.heap.size := hB_1.size
        have hl_V_1 := isRow.lt V_1
        have ne_V_1_0 : ¬ gv = v1.heap.size := by omega
        have en_V_1_0 : ¬ v1.heap.size = gv := by omega
        have ne_V_1_1 : ¬ gv = v1.heap.size + 1 := by omega
        have en_V_1_1 : ¬ v1.heap.size + 1 = gv := by omega
        have hl_L_1 := isRow.lt L_1
        have ne_L_1_0 : ¬ lv = v1.heap.size := by omega
        have en_L_1_0 : ¬ v1.heap.size = lv := by omega
        have ne_L_1_1 : ¬ lv = v1.heap.size + 1 := by omega
        have en_L_1_1 : ¬ v1.heap.size + 1 = lv := by omega
        have hl_F_1 := isRow.lt F_1
        have ne_F_1_0 : ¬ gF = v1.heap.size := by omega
        have en_F_1_0 : ¬ v1.heap.size = gF := by omega
        have ne_F_1_1 : ¬ gF = v1.heap.size + 1 := by omega
        have en_F_1_1 : ¬ v1.heap.size + 1 = gF := by omega
        go_wp2_with fail
        refine (HF1.out _ (by go_simp) (by go_simp)).mono ?_
        rintro e v2 ⟨rfl, hb2⟩
        obtain ⟨V_2, V_2'⟩ : Row v2 gv #[.int .i64 m, .int .i64 p0, .int .i64 p1, .bool o0, .bool o1, .bool false, .int .u32 a2, .int .u32 b2, .slice (some ⟨lv, 0, none⟩) ys.length ys.length, .int .i64 lost] := Row.step (by go_simp) (by go_simp) hb2
        obtain ⟨L_2, L_2'⟩ : Row v2 lv (FA (setSt ys k 0)) := Row.step (by go_simp) (by go_simp) hb2
        obtain ⟨F_2, F_2'⟩ : Row v2 gF #[.int .i64 m, .int .i64 p0, .int .i64 p1, .bool o0, .bool o1, .bool false, .int .u32 a, .int .u32 b] := Row.step (by go_simp) (by go_simp) hb2
        have hB_2 : Below w.heap.size w v2 := bk (by go_simp) (by first | (go_simp; done) | (go_simp; omega) | exact Below.size (by assumption)) hb2
        clear V_1 V_1' L_1 L_1' F_1 F_1' hB_1 hb2
        have hz_2 : w.heap.size ≤ v2.heap.size := hB_2.size
        have hl_V_2 := isRow.lt V_2
        have ne_V_2_0 : ¬ gv = v2.heap.size := by omega
        have en_V_2_0 : ¬ v2.heap.size = gv := by omega
        have ne_V_2_1 : ¬ gv = v2.heap.size + 1 := by omega
        have en_V_2_1 : ¬ v2.heap.size + 1 = gv := by omega
        have hl_L_2 := isRow.lt L_2
        have ne_L_2_0 : ¬ lv = v2.heap.size := by omega
        have en_L_2_0 : ¬ v2.heap.size = lv := by omega
        have ne_L_2_1 : ¬ lv = v2.heap.size + 1 := by omega
        have en_L_2_1 : ¬ v2.heap.size + 1 = lv := by omega
        have hl_F_2 := isRow.lt F_2
        have ne_F_2_0 : ¬ gF = v2.heap.size := by omega
        have en_F_2_0 : ¬ v2.heap.size = gF := by omega
        have ne_F_2_1 : ¬ gF = v2.heap.size + 1 := by omega
        have en_F_2_1 : ¬ v2.heap.size + 1 = gF := by omega
        go_wp2_with fail
        refine (HE.out _ (by go_simp) (by go_simp) (by go_simp) (by go_simp)).mono ?_
        rintro e v3 ⟨rfl, ⟨V_3, V_3'⟩, ⟨L_3, L_3'⟩, hA3⟩
        obtain ⟨F_3, F_3'⟩ : Row v3 gF #[.int .i64 m, .int .i64 p0, .int .i64 p1, .bool o0, .bool o1, .bool false, .int .u32 a, .int .u32 b] := hA3.row ⟨by go_simp, by go_simp⟩ (by omega) (by omega)
        have hB_3 : Below w.heap.size w v3 := hA3.below (by go_simp) (by first | omega | (go_simp; done) | (go_simp; omega)) (by first | omega | (go_simp; done) | (go_simp; omega)) (by first | (go_simp; done) | (go_simp; omega) | exact Below.size (by assumption))
        clear V_2 V_2' L_2 L_2' F_2 F_2' hB_2 hA3
        have hz_3 : w.heap.size ≤ v3.heap.size := hB_3.size
        have hl_V_3 := isRow.lt V_3
        have ne_V_3_0 : ¬ gv = v3.heap.size := by omega
        have en_V_3_0 : ¬ v3.heap.size = gv := by omega
        have ne_V_3_1 : ¬ gv = v3.heap.size + 1 := by omega
        have en_V_3_1 : ¬ v3.heap.size + 1 = gv := by omega
        have hl_L_3 := isRow.lt L_3
        have ne_L_3_0 : ¬ lv = v3.heap.size := by omega
        have en_L_3_0 : ¬ v3.heap.size = lv := by omega
        have ne_L_3_1 : ¬ lv = v3.heap.size + 1 := by omega
        have en_L_3_1 : ¬ v3.heap.size + 1 = lv := by omega
        have hl_F_3 := isRow.lt F_3
        have ne_F_3_0 : ¬ gF = v3.heap.size := by omega
        have en_F_3_0 : ¬ v3.heap.size = gF := by omega
        have ne_F_3_1 : ¬ gF = v3.heap.size + 1 := by omega
        have en_F_3_1 : ¬ v3.heap.size + 1 = gF := by omega
        go_wp2_with fail
        have ne_V_E1 : ¬ gv = v3.heap.size := by omega
        have en_V_E1 : ¬ v3.heap.size = gv := by omega
        have ne_L_E1 : ¬ lv = v3.heap.size := by omega
        have en_L_E1 : ¬ v3.heap.size = lv := by omega
        have ne_F_E1 : ¬ gF = v3.heap.size := by omega
        have en_F_E1 : ¬ v3.heap.size = gF := by omega
        refine wp_named (fun W_ => (isRow W_ gv ∧ rowAt W_ gv = #[.int .i64 m, .int .i64 p0, .int .i64 p1, .bool o0, .bool o1, .bool false, .int .u32 a, .int .u32 b, .slice (some ⟨lv, 0, none⟩) ys.length ys.length, .int .i64 lost]) ∧ (isRow W_ lv ∧ rowAt W_ lv = (FA (setSt ys k 0))) ∧ (isRow W_ gF ∧ rowAt W_ gF = #[.int .i64 m, .int .i64 p0, .int .i64 p1, .bool o0, .bool o1, .bool false, .int .u32 a, .int .u32 b]) ∧ (isRow W_ v3.heap.size ∧ rowAt W_ v3.heap.size = #[.bool false, .int .i64 (-1)]) ∧ Below w.heap.size w W_) (by refine ⟨⟨by go_simp, by go_simp⟩, ⟨by go_simp, by go_simp⟩, ⟨by go_simp, by go_simp⟩, ⟨by go_simp, by go_simp⟩, by go_simp⟩) ?_
        rintro v4 ⟨⟨V_4, V_4'⟩, ⟨L_4, L_4'⟩, ⟨F_4, F_4'⟩, ⟨E1_4, E1_4'⟩, hB_4⟩
        clear V_3 V_3' L_3 L_3' F_3 F_3' hB_3
        have hz_4 : w.heap.size ≤ v4.heap.size := hB_4.size
        have hl_V_4 := isRow.lt V_4
        have ne_V_4_0 : ¬ gv = v4.heap.size := by omega
        have en_V_4_0 : ¬ v4.heap.size = gv := by omega
        have ne_V_4_1 : ¬ gv = v4.heap.size + 1 := by omega
        have en_V_4_1 : ¬ v4.heap.size + 1 = gv := by omega
        have hl_L_4 := isRow.lt L_4
        have ne_L_4_0 : ¬ lv = v4.heap.size := by omega
        have en_L_4_0 : ¬ v4.heap.size = lv := by omega
        have ne_L_4_1 : ¬ lv = v4.heap.size + 1 := by omega
        have en_L_4_1 : ¬ v4.heap.size + 1 = lv := by omega
        have hl_F_4 := isRow.lt F_4
        have ne_F_4_0 : ¬ gF = v4.heap.size := by omega
        have en_F_4_0 : ¬ v4.heap.size = gF := by omega
        have ne_F_4_1 : ¬ gF = v4.heap.size + 1 := by omega
        have en_F_4_1 : ¬ v4.heap.size + 1 = gF := by omega
        have hl_E1_4 := isRow.lt E1_4
        have ne_E1_4_0 : ¬ v3.heap.size = v4.heap.size := by omega
        have en_E1_4_0 : ¬ v4.heap.size = v3.heap.size := by omega
        have ne_E1_4_1 : ¬ v3.heap.size = v4.heap.size + 1 := by omega
        have en_E1_4_1 : ¬ v4.heap.size + 1 = v3.heap.size := by omega
        refine wp_region_held_drew (S := fun w' => isRow w' gv ∧ rowAt w' gv = #[.int .i64 m, .int .i64 p0, .int .i64 p1, .bool o0, .bool o1, .bool false, .int .u32 a, .int .u32 b, .slice (some ⟨lv, 0, none⟩) ys.length ys.length, .int .i64 lost] ∧ isRow w' lv ∧ rowAt w' lv = (FA (setSt ys k 0)) ∧ isRow w' gF ∧ rowAt w' gF = #[.int .i64 m, .int .i64 p0, .int .i64 p1, .bool o0, .bool o1, .bool false, .int .u32 a, .int .u32 b] ∧ isRow w' v3.heap.size ∧ rowAt w' v3.heap.size = #[.bool false, .int .i64 (-1)] ∧ Below w.heap.size w w') (by kernel_rfl) ⟨V_4, V_4', L_4, L_4', F_4, F_4', E1_4, E1_4', below_drew0 hB_4⟩ (fun hHeld => ?_)
        refine tk 0 ⟨some 137, .move (.tmp 10), 24, "law.go:227", #[], none⟩ ?_ ?_ ?_
        rotate_left
        · (intro w_ hS_; (try dsimp only at hS_); go_simp; try with_reducible rfl)
        try simp only [Act.put, List.setIfInBounds_toArray, List.set_cons_zero, List.set_cons_succ]
        refine tk 1 ⟨some 138, .nilCheck (.tmp 137), 0, "law.go:227", #[⟨0, .data⟩], none⟩ ?_ ?_ ?_
        rotate_left
        · (intro w_ hS_; (try dsimp only at hS_); go_simp; try with_reducible rfl)
        try simp only [Act.put, List.setIfInBounds_toArray, List.set_cons_zero, List.set_cons_succ]
        refine tk 2 ⟨some 139, .fieldAddr 37 (.tmp 138) 0, 0, "law.go:227", #[⟨1, .data⟩], none⟩ ?_ ?_ ?_
        rotate_left
        · (intro w_ hS_; (try dsimp only at hS_); go_simp; try with_reducible rfl)
        try simp only [Act.put, List.setIfInBounds_toArray, List.set_cons_zero, List.set_cons_succ]
        refine tk 3 ⟨some 140, .load 35 (.tmp 139), 35, "law.go:227", #[⟨2, .data⟩], none⟩ ?_ ?_ ?_
        rotate_left
        · (intro w_ hS_; (try dsimp only at hS_); go_simp; try with_reducible rfl)
        try simp only [Act.put, List.setIfInBounds_toArray, List.set_cons_zero, List.set_cons_succ]
        refine tk 4 ⟨some 141, .load 35 (.tmp 12), 35, "law.go:227", #[], none⟩ ?_ ?_ ?_
        rotate_left
        · (intro w_ hS_; (try dsimp only at hS_); go_simp; try with_reducible rfl)
        try simp only [Act.put, List.setIfInBounds_toArray, List.set_cons_zero, List.set_cons_succ]
        refine tk 5 ⟨some 142, .binOp .neq 35 (.tmp 140) (.tmp 141) 35, 4, "law.go:227", #[⟨3, .data⟩, ⟨4, .data⟩], none⟩ ?_ ?_ ?_
        rotate_left
        · (intro w_ hS_; (try dsimp only at hS_); go_simp; try with_reducible rfl)
        try simp only [Act.put, List.setIfInBounds_toArray, List.set_cons_zero, List.set_cons_succ]
        refine tk 6 ⟨some 143, .move (.tmp 142), 4, "law.go:227", #[⟨5, .data⟩], none⟩ ?_ ?_ ?_
        rotate_left
        · (intro w_ hS_; (try dsimp only at hS_); go_simp; try with_reducible rfl)
        try simp only [Act.put, List.setIfInBounds_toArray, List.set_cons_zero, List.set_cons_succ]
        refine tk 7 ⟨some 144, .move (.tmp 10), 24, "law.go:227", #[⟨6, .guard⟩], some (6, false)⟩ ?_ ?_ ?_
        rotate_left
        · (intro w_ hS_; (try dsimp only at hS_); go_simp; try with_reducible rfl)
        try simp only [Act.put, List.setIfInBounds_toArray, List.set_cons_zero, List.set_cons_succ]
        refine tk 8 ⟨some 145, .nilCheck (.tmp 144), 0, "law.go:227", #[⟨7, .data⟩, ⟨6, .guard⟩], some (6, false)⟩ ?_ ?_ ?_
        rotate_left
        · (intro w_ hS_; (try dsimp only at hS_); go_simp; try with_reducible rfl)
        try simp only [Act.put, List.setIfInBounds_toArray, List.set_cons_zero, List.set_cons_succ]
        refine tk 9 ⟨some 146, .fieldAddr 37 (.tmp 145) 1, 0, "law.go:227", #[⟨8, .data⟩, ⟨6, .guard⟩], some (6, false)⟩ ?_ ?_ ?_
        rotate_left
        · (intro w_ hS_; (try dsimp only at hS_); go_simp; try with_reducible rfl)
        try simp only [Act.put, List.setIfInBounds_toArray, List.set_cons_zero, List.set_cons_succ]
        refine tk 10 ⟨some 147, .load 22 (.tmp 146), 22, "law.go:227", #[⟨9, .data⟩, ⟨6, .guard⟩], some (6, false)⟩ ?_ ?_ ?_
        rotate_left
        · (intro w_ hS_; (try dsimp only at hS_); go_simp; try with_reducible rfl)
        try simp only [Act.put, List.setIfInBounds_toArray, List.set_cons_zero, List.set_cons_succ]
        refine tk 11 ⟨some 148, .move (.tmp 14), 3, "law.go:227", #[⟨6, .guard⟩], some (6, false)⟩ ?_ ?_ ?_
        rotate_left
        · (intro w_ hS_; (try dsimp only at hS_); go_simp; try with_reducible rfl)
        try simp only [Act.put, List.setIfInBounds_toArray, List.set_cons_zero, List.set_cons_succ]
        refine wpAnyH_ready (rs := [12]) (by kernel_rfl) (by simp) ?_
        refine AllReadyH.cons (o := ⟨some 149, .call ⟨.value (.func 22), #[.tmp 147, .tmp 148], #[22, 3]⟩, 3, "law.go:227", #[⟨10, .data⟩, ⟨11, .data⟩, ⟨6, .chain⟩, ⟨6, .guard⟩], some (6, false)⟩) rfl (fun K hK => ?_) AllReadyH.nil
        go_simp
        (have hq_ := hHeld; (try dsimp only at hq_); go_split_ands)
        refine (HF2.out _ (by assumption) (by assumption)).mono ?_
        rintro e w4 ⟨rfl, hb⟩
        refine hK.out _ _ ?_ (fun hHeld => ?_)
        · (go_split_ands; exact ⟨rk1 (by assumption) hb, rk2 (by assumption) (by assumption) hb, rk1 (by assumption) hb, rk2 (by assumption) (by assumption) hb, rk1 (by assumption) hb, rk2 (by assumption) (by assumption) hb, rk1 (by assumption) hb, rk2 (by assumption) (by assumption) hb, bk (by assumption) (Below.size (by assumption)) hb⟩)
        clear hK K
        try simp only [Act.put, List.setIfInBounds_toArray, List.set_cons_zero, List.set_cons_succ]
        refine tk 13 ⟨some 150, .binOp .geq 3 (.tmp 149) (.const (.int .i64 0)) 3, 4, "law.go:227", #[⟨12, .data⟩, ⟨6, .guard⟩], some (6, false)⟩ ?_ ?_ ?_
        rotate_left
        · (intro w_ hS_; (try dsimp only at hS_); go_simp; try with_reducible rfl)
        try simp only [Act.put, List.setIfInBounds_toArray, List.set_cons_zero, List.set_cons_succ]
        refine tk 14 ⟨some 151, .pick (.tmp 143) (.const (.bool true)) (.tmp 150), 4, "law.go:227", #[⟨6, .data⟩, ⟨13, .data⟩], none⟩ ?_ ?_ ?_
        rotate_left
        · (intro w_ hS_; (try dsimp only at hS_); go_simp; try with_reducible rfl)
        try simp only [Act.put, List.setIfInBounds_toArray, List.set_cons_zero, List.set_cons_succ]
        refine tk 15 ⟨some 152, .move (.tmp 151), 4, "law.go:227", #[⟨14, .data⟩, ⟨12, .chain⟩], none⟩ ?_ ?_ ?_
        rotate_left
        · (intro w_ hS_; (try dsimp only at hS_); go_simp; try with_reducible rfl)
        try simp only [Act.put, List.setIfInBounds_toArray, List.set_cons_zero, List.set_cons_succ]
        refine tk 16 ⟨some 153, .move (.tmp 10), 24, "law.go:227", #[⟨15, .guard⟩], some (15, false)⟩ ?_ ?_ ?_
        rotate_left
        · (intro w_ hS_; (try dsimp only at hS_); go_simp; try with_reducible rfl)
        try simp only [Act.put, List.setIfInBounds_toArray, List.set_cons_zero, List.set_cons_succ]
        refine tk 17 ⟨some 154, .nilCheck (.tmp 153), 0, "law.go:227", #[⟨16, .data⟩, ⟨15, .guard⟩], some (15, false)⟩ ?_ ?_ ?_
        rotate_left
        · (intro w_ hS_; (try dsimp only at hS_); go_simp; try with_reducible rfl)
        try simp only [Act.put, List.setIfInBounds_toArray, List.set_cons_zero, List.set_cons_succ]
        refine tk 18 ⟨some 155, .fieldAddr 37 (.tmp 154) 2, 0, "law.go:227", #[⟨17, .data⟩, ⟨15, .guard⟩], some (15, false)⟩ ?_ ?_ ?_
        rotate_left
        · (intro w_ hS_; (try dsimp only at hS_); go_simp; try with_reducible rfl)
        try simp only [Act.put, List.setIfInBounds_toArray, List.set_cons_zero, List.set_cons_succ]
        refine tk 19 ⟨some 156, .load 3 (.tmp 155), 3, "law.go:227", #[⟨18, .data⟩, ⟨15, .guard⟩], some (15, false)⟩ ?_ ?_ ?_
        rotate_left
        · (intro w_ hS_; (try dsimp only at hS_); go_simp; try with_reducible rfl)
        try simp only [Act.put, List.setIfInBounds_toArray, List.set_cons_zero, List.set_cons_succ]
        refine tk 20 ⟨some 157, .move (.tmp 13), 3, "law.go:227", #[⟨15, .guard⟩], some (15, false)⟩ ?_ ?_ ?_
        rotate_left
        · (intro w_ hS_; (try dsimp only at hS_); go_simp; try with_reducible rfl)
        try simp only [Act.put, List.setIfInBounds_toArray, List.set_cons_zero, List.set_cons_succ]
        refine tk 21 ⟨some 158, .binOp .neq 3 (.tmp 156) (.tmp 157) 3, 4, "law.go:227", #[⟨19, .data⟩, ⟨20, .data⟩, ⟨15, .guard⟩], some (15, false)⟩ ?_ ?_ ?_
        rotate_left
        · (intro w_ hS_; (try dsimp only at hS_); go_simp; try with_reducible rfl)
        try simp only [Act.put, List.setIfInBounds_toArray, List.set_cons_zero, List.set_cons_succ]
        refine tk 22 ⟨some 159, .pick (.tmp 152) (.const (.bool true)) (.tmp 158), 4, "law.go:227", #[⟨15, .data⟩, ⟨21, .data⟩], none⟩ ?_ ?_ ?_
        rotate_left
        · (intro w_ hS_; (try dsimp only at hS_); go_simp; try with_reducible rfl)
        try simp only [Act.put, List.setIfInBounds_toArray, List.set_cons_zero, List.set_cons_succ]
        refine wpAnyH_done (by kernel_rfl) ?_ _
        (try dsimp only at hHeld)
        go_split_ands
        go_wp2_with fail
        refine wp_named (fun W_ => (isRow W_ gv ∧ rowAt W_ gv = #[.int .i64 m, .int .i64 p0, .int .i64 p1, .bool o0, .bool o1, .bool false, .int .u32 a, .int .u32 b, .slice (some ⟨lv, 0, none⟩) ys.length ys.length, .int .i64 lost]) ∧ (isRow W_ lv ∧ rowAt W_ lv = (FA (setSt ys k 0))) ∧ (isRow W_ gF ∧ rowAt W_ gF = #[.int .i64 m, .int .i64 p0, .int .i64 p1, .bool o0, .bool o1, .bool false, .int .u32 a, .int .u32 b]) ∧ (isRow W_ v3.heap.size ∧ rowAt W_ v3.heap.size = #[.bool false, .int .i64 (-1)]) ∧ Below w.heap.size w W_) (by refine ⟨⟨by go_simp, by go_simp⟩, ⟨by go_simp, by go_simp⟩, ⟨by go_simp, by go_simp⟩, ⟨by go_simp, by go_simp⟩, by go_simp⟩) ?_
        rintro v5 ⟨⟨V_5, V_5'⟩, ⟨L_5, L_5'⟩, ⟨F_5, F_5'⟩, ⟨E1_5, E1_5'⟩, hB_5⟩
        have hz_5 : w.heap.size ≤ v5.heap.size := hB_5.size
        have hl_V_5 := isRow.lt V_5
        have ne_V_5_0 : ¬ gv = v5.heap.size := by omega
        have en_V_5_0 : ¬ v5.heap.size = gv := by omega
        have ne_V_5_1 : ¬ gv = v5.heap.size + 1 := by omega
        have en_V_5_1 : ¬ v5.heap.size + 1 = gv := by omega
        have hl_L_5 := isRow.lt L_5
        have ne_L_5_0 : ¬ lv = v5.heap.size := by omega
        have en_L_5_0 : ¬ v5.heap.size = lv := by omega
        have ne_L_5_1 : ¬ lv = v5.heap.size + 1 := by omega
        have en_L_5_1 : ¬ v5.heap.size + 1 = lv := by omega
        have hl_F_5 := isRow.lt F_5
        have ne_F_5_0 : ¬ gF = v5.heap.size := by omega
        have en_F_5_0 : ¬ v5.heap.size = gF := by omega
        have ne_F_5_1 : ¬ gF = v5.heap.size + 1 := by omega
        have en_F_5_1 : ¬ v5.heap.size + 1 = gF := by omega
        have hl_E1_5 := isRow.lt E1_5
        have ne_E1_5_0 : ¬ v3.heap.size = v5.heap.size := by omega
        have en_E1_5_0 : ¬ v5.heap.size = v3.heap.size := by omega
        have ne_E1_5_1 : ¬ v3.heap.size = v5.heap.size + 1 := by omega
        have en_E1_5_1 : ¬ v5.heap.size + 1 = v3.heap.size := by omega
        refine wp_region_held_drew (S := fun w' => isRow w' gv ∧ rowAt w' gv = #[.int .i64 m, .int .i64 p0, .int .i64 p1, .bool o0, .bool o1, .bool false, .int .u32 a, .int .u32 b, .slice (some ⟨lv, 0, none⟩) ys.length ys.length, .int .i64 lost] ∧ isRow w' lv ∧ rowAt w' lv = (FA (setSt ys k 0)) ∧ isRow w' gF ∧ rowAt w' gF = #[.int .i64 m, .int .i64 p0, .int .i64 p1, .bool o0, .bool o1, .bool false, .int .u32 a, .int .u32 b] ∧ isRow w' v3.heap.size ∧ rowAt w' v3.heap.size = #[.bool false, .int .i64 (-1)] ∧ Below w.heap.size w w') (by kernel_rfl) ⟨V_5, V_5', L_5, L_5', F_5, F_5', E1_5, E1_5', below_drew0 hB_5⟩ (fun hHeld => ?_)
        refine tk 0 ⟨some 160, .move (.tmp 14), 3, "law.go:230", #[], none⟩ ?_ ?_ ?_
        rotate_left
        · (intro w_ hS_; (try dsimp only at hS_); go_simp; try with_reducible rfl)
        try simp only [Act.put, List.setIfInBounds_toArray, List.set_cons_zero, List.set_cons_succ]
        refine tk 1 ⟨some 161, .binOp .geq 3 (.tmp 160) (.const (.int .i64 8192)) 3, 4, "law.go:230", #[⟨0, .data⟩], none⟩ ?_ ?_ ?_
        rotate_left
        · (intro w_ hS_; (try dsimp only at hS_); go_simp; try with_reducible rfl)
        try simp only [Act.put, List.setIfInBounds_toArray, List.set_cons_zero, List.set_cons_succ]
        refine tk 2 ⟨some 162, .move (.tmp 161), 4, "law.go:230", #[⟨1, .data⟩], none⟩ ?_ ?_ ?_
        rotate_left
        · (intro w_ hS_; (try dsimp only at hS_); go_simp; try with_reducible rfl)
        try simp only [Act.put, List.setIfInBounds_toArray, List.set_cons_zero, List.set_cons_succ]
        refine tk 3 ⟨some 163, .fieldAddr 57 (.tmp 18) 0, 0, "law.go:230", #[⟨2, .guard⟩], some (2, true)⟩ ?_ ?_ ?_
        rotate_left
        · (intro w_ hS_; (try dsimp only at hS_); go_simp; try with_reducible rfl)
        try simp only [Act.put, List.setIfInBounds_toArray, List.set_cons_zero, List.set_cons_succ]
        refine tk 4 ⟨some 164, .load 4 (.tmp 163), 4, "law.go:230", #[⟨3, .data⟩, ⟨2, .guard⟩], some (2, true)⟩ ?_ ?_ ?_
        rotate_left
        · (intro w_ hS_; (try dsimp only at hS_); go_simp; try with_reducible rfl)
        try simp only [Act.put, List.setIfInBounds_toArray, List.set_cons_zero, List.set_cons_succ]
        refine tk 5 ⟨some 165, .unOp .not 4 (.tmp 164), 4, "law.go:230", #[⟨4, .data⟩, ⟨2, .guard⟩], some (2, true)⟩ ?_ ?_ ?_
        rotate_left
        · (intro w_ hS_; (try dsimp only at hS_); go_simp; try with_reducible rfl)
        try simp only [Act.put, List.setIfInBounds_toArray, List.set_cons_zero, List.set_cons_succ]
        refine tk 6 ⟨some 166, .pick (.tmp 162) (.tmp 165) (.const (.bool false)), 4, "law.go:230", #[⟨2, .data⟩, ⟨5, .data⟩], none⟩ ?_ ?_ ?_
        rotate_left
        · (intro w_ hS_; (try dsimp only at hS_); go_simp; try with_reducible rfl)
        try simp only [Act.put, List.setIfInBounds_toArray, List.set_cons_zero, List.set_cons_succ]
        refine tk 7 ⟨some 167, .move (.tmp 166), 4, "law.go:230", #[⟨6, .data⟩, ⟨2, .chain⟩], none⟩ ?_ ?_ ?_
        rotate_left
        · (intro w_ hS_; (try dsimp only at hS_); go_simp; try with_reducible rfl)
        try simp only [Act.put, List.setIfInBounds_toArray, List.set_cons_zero, List.set_cons_succ]
        refine tu 8 ⟨some 168, .move (.tmp 14), 3, "law.go:230", #[⟨7, .guard⟩], some (7, false)⟩ ?_
        try simp only [Act.put, List.setIfInBounds_toArray, List.set_cons_zero, List.set_cons_succ]
        refine tu 9 ⟨some 169, .binOp .lss 3 (.tmp 168) (.const (.int .i64 8192)) 3, 4, "law.go:230", #[⟨8, .data⟩, ⟨7, .guard⟩], some (7, false)⟩ ?_
        try simp only [Act.put, List.setIfInBounds_toArray, List.set_cons_zero, List.set_cons_succ]
        refine tu 10 ⟨some 170, .move (.tmp 169), 4, "law.go:230", #[⟨9, .data⟩, ⟨7, .chain⟩, ⟨7, .guard⟩], some (7, false)⟩ ?_
        try simp only [Act.put, List.setIfInBounds_toArray, List.set_cons_zero, List.set_cons_succ]
        refine tu 11 ⟨some 171, .move (.tmp 15), 3, "law.go:230", #[⟨10, .guard⟩], some (10, true)⟩ ?_
        try simp only [Act.put, List.setIfInBounds_toArray, List.set_cons_zero, List.set_cons_succ]
        refine tu 12 ⟨some 172, .binOp .geq 3 (.tmp 171) (.const (.int .i64 0)) 3, 4, "law.go:230", #[⟨11, .data⟩, ⟨10, .guard⟩], some (10, true)⟩ ?_
        try simp only [Act.put, List.setIfInBounds_toArray, List.set_cons_zero, List.set_cons_succ]
        refine tu 13 ⟨some 173, .pick (.tmp 170) (.tmp 172) (.const (.bool false)), 4, "law.go:230", #[⟨10, .data⟩, ⟨12, .data⟩, ⟨7, .guard⟩], some (7, false)⟩ ?_
        try simp only [Act.put, List.setIfInBounds_toArray, List.set_cons_zero, List.set_cons_succ]
        refine tu 14 ⟨some 174, .move (.tmp 173), 4, "law.go:230", #[⟨13, .data⟩, ⟨10, .chain⟩, ⟨7, .guard⟩], some (7, false)⟩ ?_
        try simp only [Act.put, List.setIfInBounds_toArray, List.set_cons_zero, List.set_cons_succ]
        refine tu 15 ⟨some 175, .fieldAddr 57 (.tmp 18) 0, 0, "law.go:230", #[⟨14, .guard⟩], some (14, true)⟩ ?_
        try simp only [Act.put, List.setIfInBounds_toArray, List.set_cons_zero, List.set_cons_succ]
        refine tu 16 ⟨some 176, .load 4 (.tmp 175), 4, "law.go:230", #[⟨15, .data⟩, ⟨14, .guard⟩], some (14, true)⟩ ?_
        try simp only [Act.put, List.setIfInBounds_toArray, List.set_cons_zero, List.set_cons_succ]
        refine tu 17 ⟨some 177, .pick (.tmp 174) (.tmp 176) (.const (.bool false)), 4, "law.go:230", #[⟨14, .data⟩, ⟨16, .data⟩, ⟨7, .guard⟩], some (7, false)⟩ ?_
        try simp only [Act.put, List.setIfInBounds_toArray, List.set_cons_zero, List.set_cons_succ]
        refine tu 18 ⟨some 178, .move (.tmp 177), 4, "law.go:230", #[⟨17, .data⟩, ⟨14, .chain⟩, ⟨7, .guard⟩], some (7, false)⟩ ?_
        try simp only [Act.put, List.setIfInBounds_toArray, List.set_cons_zero, List.set_cons_succ]
        refine tu 19 ⟨some 179, .move (.tmp 10), 24, "law.go:230", #[⟨18, .guard⟩], some (18, true)⟩ ?_
        try simp only [Act.put, List.setIfInBounds_toArray, List.set_cons_zero, List.set_cons_succ]
        refine tu 20 ⟨some 180, .nilCheck (.tmp 179), 0, "law.go:230", #[⟨19, .data⟩, ⟨18, .guard⟩], some (18, true)⟩ ?_
        try simp only [Act.put, List.setIfInBounds_toArray, List.set_cons_zero, List.set_cons_succ]
        refine tu 21 ⟨some 181, .fieldAddr 37 (.tmp 180) 1, 0, "law.go:230", #[⟨20, .data⟩, ⟨18, .guard⟩], some (18, true)⟩ ?_
        try simp only [Act.put, List.setIfInBounds_toArray, List.set_cons_zero, List.set_cons_succ]
        refine tu 22 ⟨some 182, .load 22 (.tmp 181), 22, "law.go:230", #[⟨21, .data⟩, ⟨18, .guard⟩], some (18, true)⟩ ?_
        try simp only [Act.put, List.setIfInBounds_toArray, List.set_cons_zero, List.set_cons_succ]
        refine tu 23 ⟨some 183, .move (.tmp 15), 3, "law.go:230", #[⟨18, .guard⟩], some (18, true)⟩ ?_
        try simp only [Act.put, List.setIfInBounds_toArray, List.set_cons_zero, List.set_cons_succ]
        refine tu 24 ⟨some 184, .indexAddr 22 (.tmp 182) (.tmp 183), 0, "law.go:230", #[⟨22, .data⟩, ⟨23, .data⟩, ⟨18, .guard⟩], some (18, true)⟩ ?_
        try simp only [Act.put, List.setIfInBounds_toArray, List.set_cons_zero, List.set_cons_succ]
        refine tu 25 ⟨some 185, .load 54 (.tmp 184), 54, "law.go:230", #[⟨24, .data⟩, ⟨18, .guard⟩], some (18, true)⟩ ?_
        try simp only [Act.put, List.setIfInBounds_toArray, List.set_cons_zero, List.set_cons_succ]
        refine tu 26 ⟨some 186, .load 57 (.tmp 18), 57, "law.go:230", #[⟨18, .guard⟩], some (18, true)⟩ ?_
        try simp only [Act.put, List.setIfInBounds_toArray, List.set_cons_zero, List.set_cons_succ]
        refine tu 27 ⟨some 187, .call ⟨.value (.func 25), #[.tmp 185, .tmp 186], #[54, 57]⟩, 4, "law.go:230", #[⟨25, .data⟩, ⟨26, .data⟩, ⟨18, .chain⟩, ⟨18, .guard⟩], some (18, true)⟩ ?_
        try simp only [Act.put, List.setIfInBounds_toArray, List.set_cons_zero, List.set_cons_succ]
        refine tu 28 ⟨some 188, .pick (.tmp 178) (.tmp 187) (.const (.bool false)), 4, "law.go:230", #[⟨18, .data⟩, ⟨27, .data⟩, ⟨7, .guard⟩], some (7, false)⟩ ?_
        try simp only [Act.put, List.setIfInBounds_toArray, List.set_cons_zero, List.set_cons_succ]
        refine tk 29 ⟨some 189, .pick (.tmp 167) (.const (.bool true)) (.tmp 188), 4, "law.go:230", #[⟨7, .data⟩, ⟨28, .data⟩], none⟩ ?_ ?_ ?_
        rotate_left
        · (intro w_ hS_; (try dsimp only at hS_); go_simp; try with_reducible rfl)
        try simp only [Act.put, List.setIfInBounds_toArray, List.set_cons_zero, List.set_cons_succ]
        refine tk 30 ⟨some 8, .assign (.tmp 189), 4, "law.go:230", #[⟨29, .data⟩, ⟨27, .chain⟩, ⟨0, .phase⟩, ⟨1, .phase⟩, ⟨2, .phase⟩, ⟨3, .phase⟩, ⟨4, .phase⟩, ⟨5, .phase⟩, ⟨6, .phase⟩, ⟨7, .phase⟩, ⟨8, .phase⟩, ⟨9, .phase⟩, ⟨10, .phase⟩, ⟨11, .phase⟩, ⟨12, .phase⟩, ⟨13, .phase⟩, ⟨14, .phase⟩, ⟨15, .phase⟩, ⟨16, .phase⟩, ⟨17, .phase⟩, ⟨18, .phase⟩, ⟨19, .phase⟩, ⟨20, .phase⟩, ⟨21, .phase⟩, ⟨22, .phase⟩, ⟨23, .phase⟩, ⟨24, .phase⟩, ⟨25, .phase⟩, ⟨26, .phase⟩, ⟨27, .phase⟩, ⟨28, .phase⟩, ⟨29, .phase⟩], none⟩ ?_ ?_ ?_
        rotate_left
        · (intro w_ hS_; (try dsimp only at hS_); go_simp; try with_reducible rfl)
        try simp only [Act.put, List.setIfInBounds_toArray, List.set_cons_zero, List.set_cons_succ]
        refine wpAnyH_done (by kernel_rfl) ?_ _
        (try dsimp only at hHeld)
        go_split_ands
        go_wp2
        go_ret
        exact ⟨rfl, by assumption⟩
      · skip
        have hA : ∀ W, isRow W gv → rowAt W gv = #[.int .i64 m, .int .i64 p0, .int .i64 p1, .bool o0, .bool o1, .bool false, .int .u32 a, .int .u32 b, .slice (some ⟨lv, 0, none⟩) ys.length ys.length, .int .i64 lost] → isRow W lv → rowAt W lv = FA ys → Calls Try.prog 17 #[.pointer (some ⟨gv, 0, none⟩), .int .i64 gp] W fun e w' => e = .returned (.int .i64 id) ∧ Row w' gv #[.int .i64 m, .int .i64 p0, .int .i64 p1, .bool o0, .bool o1, .bool false, .int .u32 (setA .or a gp (levP p0 p1 (best ys).pr gp)), .int .u32 (setB .or b gp (levP p0 p1 (best ys).pr gp)), .slice (some ⟨lv, 0, none⟩) ys.length ys.length, .int .i64 lost] ∧ Row w' lv (FA (setSt ys k 2)) ∧ Aside2 gv lv W w' := fun W q1 q2 q3 q4 => by
          have q := ack_c gv lv m p0 p1 o0 o1 false a b ys h16 lost gp n12 W q1 q2 q3 q4
          unfold ackId ackXs ackA ackB at q
          rw [hbe] at q
          rw [if_pos hT, if_pos hT, if_pos hT, if_pos hT, hf, Int.toNat_natCast, if_neg hid] at q
          exact q
        obtain ⟨hd1, hd2, hd3⟩ := ends_lad hW.a hW.b hT hpr0 hpr1 hpr8 hgp
        have hl1 : ((setSt ys k 2)).length = ys.length := setSt_length _ _ _
        have hst1 : stOk (setSt ys k 2) := stOk_set hst k 2 (by decide)
        have hf1 : findOf (setSt ys k 2) id = (k : Int) := find_set hG hk (by rw [q0]; decide) q1 (by omega)
        obtain ⟨he1, he2, he3⟩ := end_lo hk hf1
        have he4 : endLost (setSt ys k 2) id lost = lost := by unfold endLost; rw [he1]; rfl
        have hf2 : findOf (setSt (setSt ys k 2) k 0) id = -1 := find_gone2 hG hk (by rw [q0]; decide) q1 (by omega)
        have hl2 : ((setSt (setSt ys k 2) k 0)).length = ys.length := (setSt_length _ _ _).trans hl1
        obtain ⟨MM, hMM⟩ : ∃ MM : Int, MM = if (rd_T54 ys k).f4 = true then (rd_T54 ys k).f5 else -1 := ⟨_, rfl⟩
        rw [← hMM] at he2
        have hE : ∀ W, isRow W gv → rowAt W gv = #[.int .i64 m, .int .i64 p0, .int .i64 p1, .bool o0, .bool o1, .bool false, .int .u32 (setA .or a gp (levP p0 p1 (best ys).pr gp)), .int .u32 (setB .or b gp (levP p0 p1 (best ys).pr gp)), .slice (some ⟨lv, 0, none⟩) ys.length ys.length, .int .i64 lost] → isRow W lv → rowAt W lv = FA (setSt ys k 2) → Calls Try.prog 23 #[.pointer (some ⟨gv, 0, none⟩), .int .i64 gp, .int .i64 id] W fun e w' => e = .returned (.agg #[.bool true, .int .i64 MM]) ∧ Row w' gv #[.int .i64 m, .int .i64 p0, .int .i64 p1, .bool o0, .bool o1, .bool false, .int .u32 a, .int .u32 b, .slice (some ⟨lv, 0, none⟩) ys.length ys.length, .int .i64 lost] ∧ Row w' lv (FA (setSt (setSt ys k 2) k 0)) ∧ Aside2 gv lv W w' := fun W q1 q2 q3 q4 => by
          have q := eoi_c gv lv m p0 p1 o0 o1 false (setA .or a gp (levP p0 p1 (best ys).pr gp)) (setB .or b gp (levP p0 p1 (best ys).pr gp)) (setSt ys k 2) (by rw [hl1]; exact h16) hst1 lost gp id hlo hhi n12 W q1 (by rw [hl1]; exact q2) q3 q4
          unfold eoiGo eoiA eoiB gOk gM gXs gLost at q
          rw [hl1, hre, hd1, hd2, hd3] at q
          simp only [Bool.not_false, Bool.and_self, if_true] at q
          rw [he1, he2, he3, he4] at q
          exact q
        have HF1 := Lib.hid (fun (W : World) (h : isRow W lv) (h' : rowAt W lv = FA (setSt ys k 2)) => find_n hl1 h16 h h' hf1)
        have HF2 := Lib.hid (fun (W : World) (h : isRow W lv) (h' : rowAt W lv = FA (setSt (setSt ys k 2) k 0)) => find_n hl2 h16 h h' hf2)
        have HA := Lib.hid hA
        have HE := Lib.hid hE
        have hrd : rd_T54 (setSt (setSt ys k 2) k 0) k = { rd_T54 ys k with f0 := 0 } := by rw [rd_set_same (xs := setSt ys k 2) 0 (by rw [setSt_length]; exact hk), rd_set_same 2 hk]
        have hcl := fa_rd (by rw [hl2]; exact hk) hrd
        dsimp only at hcl
        generalize rd_T54 ys k = x at *
        obtain ⟨x0, x1, x2, x3, x4, x5, x6⟩ := x
        dsimp only at hcl hMM
        obtain ⟨cc0, cc1, cc2, cc3, cc4, cc5, cc6⟩ := hcl
        have HMM := Lib.hid hMM
        have hk1 : (k : Int) < (ys.length : Int) := by omega
        have hk0 : (0 : Int) ≤ (k : Int) := by omega
        have HED := Lib.hid (fun W : World => ended_c 0 x1 x2 x3 x4 x5 x6 true MM hMM W)
        clear hMM hrd q0 q1
        generalize hA2 : (setA .or a gp (levP p0 p1 (best ys).pr gp)) = a2 at *
        generalize hB2 : (setB .or b gp (levP p0 p1 (best ys).pr gp)) = b2 at *
        clear hA hE hd1 hd2 hd3 hA2 hB2 he1 he2 he3 he4 hf1 hf2 hst1 hT hf hG hW hgp hre hl1 hl2 hpr0 hpr1 hpr8 hbe
        have hid0 : id < 8192 := by omega
        have hid1 : decide (8192 ≤ id) = false := decide_eq_false hid
        have hid2 : decide (id < 8192) = true := decide_eq_true hid0
        have hsz1 := isRow.lt V0
        have hsz2 := isRow.lt L0
        have hsz3 := hB0.size
        have ne_V_F : ¬ gv = v0.heap.size := by omega
        have en_V_F : ¬ v0.heap.size = gv := by omega
        have ne_L_F : ¬ lv = v0.heap.size := by omega
        have en_L_F : ¬ v0.heap.size = lv := by omega
        go_upto_region 8 with fail
        go_cut [12, 13] (fun s12 s13 wx => s12 = .pointer (some ⟨v0.heap.size, 0, none⟩) ∧ s13 = .int .i64 lost ∧ (isRow wx gv ∧ rowAt wx gv = #[.int .i64 m, .int .i64 p0, .int .i64 p1, .bool o0, .bool o1, .bool false, .int .u32 a, .int .u32 b, .slice (some ⟨lv, 0, none⟩) ys.length ys.length, .int .i64 lost]) ∧ (isRow wx lv ∧ rowAt wx lv = FA ys) ∧ (isRow wx v0.heap.size ∧ rowAt wx v0.heap.size = #[.int .i64 m, .int .i64 p0, .int .i64 p1, .bool o0, .bool o1, .bool false, .int .u32 a, .int .u32 b]) ∧ Below w.heap.size w wx)
        case first =>
          go_region
          all_goals
            go_wp2_with fail
            go_meet
            exact ⟨rfl, rfl, ⟨by go_simp, by go_simp⟩, ⟨by go_simp, by go_simp⟩, ⟨by go_simp, by go_simp⟩, by go_simp⟩
        obtain ⟨rfl, rfl, ⟨VZ, VZ'⟩, ⟨LZ, LZ'⟩, ⟨FZ, FZ'⟩, hBZ⟩ := hcut
        have hsz4 := isRow.lt FZ
        generalize hgF : v0.heap.size = gF at *
        clear hB0 V0 V0' L0 L0' hgF
        have hsz5 := hBZ.size
        go_wp2_with fail
        refine (HA.out _ (by go_simp) (by go_simp) (by go_simp) (by go_simp)).mono ?_
        rintro e v1 ⟨rfl, ⟨V_1, V_1'⟩, ⟨L_1, L_1'⟩, hA1⟩
        obtain ⟨F_1, F_1'⟩ : Row v1 gF #[.int .i64 m, .int .i64 p0, .int .i64 p1, .bool o0, .bool o1, .bool false, .int .u32 a, .int .u32 b] := hA1.row ⟨by go_simp, by go_simp⟩ (by omega) (by omega)
        have hB_1 : Below w.heap.size w v1 := hA1.below (by go_simp) (by first | omega | (go_simp; done) | (go_simp; omega)) (by first | omega | (go_simp; done) | (go_simp; omega)) (by first | (go_simp; done) | (go_simp; omega) | exact Below.size (by assumption))
        clear VZ VZ' LZ LZ' FZ FZ' hBZ hA1
        have hz_1 : w.heap.size ≤ v1.heap.size := hB_1.size
        have hl_V_1 := isRow.lt V_1
        have ne_V_1_0 : ¬ gv = v1.heap.size := by omega
        have en_V_1_0 : ¬ v1.heap.size = gv := by omega
        have ne_V_1_1 : ¬ gv = v1.heap.size + 1 := by omega
        have en_V_1_1 : ¬ v1.heap.size + 1 = gv := by omega
        have hl_L_1 := isRow.lt L_1
        have ne_L_1_0 : ¬ lv = v1.heap.size := by omega
        have en_L_1_0 : ¬ v1.heap.size = lv := by omega
        have ne_L_1_1 : ¬ lv = v1.heap.size + 1 := by omega
        have en_L_1_1 : ¬ v1.heap.size + 1 = lv := by omega
        have hl_F_1 := isRow.lt F_1
        have ne_F_1_0 : ¬ gF = v1.heap.size := by omega
        have en_F_1_0 : ¬ v1.heap.size = gF := by omega
        have ne_F_1_1 : ¬ gF = v1.heap.size + 1 := by omega
        have en_F_1_1 : ¬ v1.heap.size + 1 = gF := by omega
        go_wp2_with fail
        refine (HF1.out _ (by go_simp) (by go_simp)).mono ?_
        rintro e v2 ⟨rfl, hb2⟩
        obtain ⟨V_2, V_2'⟩ : Row v2 gv #[.int .i64 m, .int .i64 p0, .int .i64 p1, .bool o0, .bool o1, .bool false, .int .u32 a2, .int .u32 b2, .slice (some ⟨lv, 0, none⟩) ys.length ys.length, .int .i64 lost] := Row.step (by go_simp) (by go_simp) hb2
        obtain ⟨L_2, L_2'⟩ : Row v2 lv (FA (setSt ys k 2)) := Row.step (by go_simp) (by go_simp) hb2
        obtain ⟨F_2, F_2'⟩ : Row v2 gF #[.int .i64 m, .int .i64 p0, .int .i64 p1, .bool o0, .bool o1, .bool false, .int .u32 a, .int .u32 b] := Row.step (by go_simp) (by go_simp) hb2
        have hB_2 : Below w.heap.size w v2 := bk (by go_simp) (by first | (go_simp; done) | (go_simp; omega) | exact Below.size (by assumption)) hb2
        clear V_1 V_1' L_1 L_1' F_1 F_1' hB_1 hb2
        have hz_2 : w.heap.size ≤ v2.heap.size := hB_2.size
        have hl_V_2 := isRow.lt V_2
        have ne_V_2_0 : ¬ gv = v2.heap.size := by omega
        have en_V_2_0 : ¬ v2.heap.size = gv := by omega
        have ne_V_2_1 : ¬ gv = v2.heap.size + 1 := by omega
        have en_V_2_1 : ¬ v2.heap.size + 1 = gv := by omega
        have hl_L_2 := isRow.lt L_2
        have ne_L_2_0 : ¬ lv = v2.heap.size := by omega
        have en_L_2_0 : ¬ v2.heap.size = lv := by omega
        have ne_L_2_1 : ¬ lv = v2.heap.size + 1 := by omega
        have en_L_2_1 : ¬ v2.heap.size + 1 = lv := by omega
        have hl_F_2 := isRow.lt F_2
        have ne_F_2_0 : ¬ gF = v2.heap.size := by omega
        have en_F_2_0 : ¬ v2.heap.size = gF := by omega
        have ne_F_2_1 : ¬ gF = v2.heap.size + 1 := by omega
        have en_F_2_1 : ¬ v2.heap.size + 1 = gF := by omega
        go_wp2_with fail
        refine (HE.out _ (by go_simp) (by go_simp) (by go_simp) (by go_simp)).mono ?_
        rintro e v3 ⟨rfl, ⟨V_3, V_3'⟩, ⟨L_3, L_3'⟩, hA3⟩
        obtain ⟨F_3, F_3'⟩ : Row v3 gF #[.int .i64 m, .int .i64 p0, .int .i64 p1, .bool o0, .bool o1, .bool false, .int .u32 a, .int .u32 b] := hA3.row ⟨by go_simp, by go_simp⟩ (by omega) (by omega)
        have hB_3 : Below w.heap.size w v3 := hA3.below (by go_simp) (by first | omega | (go_simp; done) | (go_simp; omega)) (by first | omega | (go_simp; done) | (go_simp; omega)) (by first | (go_simp; done) | (go_simp; omega) | exact Below.size (by assumption))
        clear V_2 V_2' L_2 L_2' F_2 F_2' hB_2 hA3
        have hz_3 : w.heap.size ≤ v3.heap.size := hB_3.size
        have hl_V_3 := isRow.lt V_3
        have ne_V_3_0 : ¬ gv = v3.heap.size := by omega
        have en_V_3_0 : ¬ v3.heap.size = gv := by omega
        have ne_V_3_1 : ¬ gv = v3.heap.size + 1 := by omega
        have en_V_3_1 : ¬ v3.heap.size + 1 = gv := by omega
        have hl_L_3 := isRow.lt L_3
        have ne_L_3_0 : ¬ lv = v3.heap.size := by omega
        have en_L_3_0 : ¬ v3.heap.size = lv := by omega
        have ne_L_3_1 : ¬ lv = v3.heap.size + 1 := by omega
        have en_L_3_1 : ¬ v3.heap.size + 1 = lv := by omega
        have hl_F_3 := isRow.lt F_3
        have ne_F_3_0 : ¬ gF = v3.heap.size := by omega
        have en_F_3_0 : ¬ v3.heap.size = gF := by omega
        have ne_F_3_1 : ¬ gF = v3.heap.size + 1 := by omega
        have en_F_3_1 : ¬ v3.heap.size + 1 = gF := by omega
        go_wp2_with fail
        have ne_V_E1 : ¬ gv = v3.heap.size := by omega
        have en_V_E1 : ¬ v3.heap.size = gv := by omega
        have ne_L_E1 : ¬ lv = v3.heap.size := by omega
        have en_L_E1 : ¬ v3.heap.size = lv := by omega
        have ne_F_E1 : ¬ gF = v3.heap.size := by omega
        have en_F_E1 : ¬ v3.heap.size = gF := by omega
        refine wp_named (fun W_ => (isRow W_ gv ∧ rowAt W_ gv = #[.int .i64 m, .int .i64 p0, .int .i64 p1, .bool o0, .bool o1, .bool false, .int .u32 a, .int .u32 b, .slice (some ⟨lv, 0, none⟩) ys.length ys.length, .int .i64 lost]) ∧ (isRow W_ lv ∧ rowAt W_ lv = (FA (setSt (setSt ys k 2) k 0))) ∧ (isRow W_ gF ∧ rowAt W_ gF = #[.int .i64 m, .int .i64 p0, .int .i64 p1, .bool o0, .bool o1, .bool false, .int .u32 a, .int .u32 b]) ∧ (isRow W_ v3.heap.size ∧ rowAt W_ v3.heap.size = #[.bool true, .int .i64 MM]) ∧ Below w.heap.size w W_) (by refine ⟨⟨by go_simp, by go_simp⟩, ⟨by go_simp, by go_simp⟩, ⟨by go_simp, by go_simp⟩, ⟨by go_simp, by go_simp⟩, by go_simp⟩) ?_
        rintro v4 ⟨⟨V_4, V_4'⟩, ⟨L_4, L_4'⟩, ⟨F_4, F_4'⟩, ⟨E1_4, E1_4'⟩, hB_4⟩
        clear V_3 V_3' L_3 L_3' F_3 F_3' hB_3
        have hz_4 : w.heap.size ≤ v4.heap.size := hB_4.size
        have hl_V_4 := isRow.lt V_4
        have ne_V_4_0 : ¬ gv = v4.heap.size := by omega
        have en_V_4_0 : ¬ v4.heap.size = gv := by omega
        have ne_V_4_1 : ¬ gv = v4.heap.size + 1 := by omega
        have en_V_4_1 : ¬ v4.heap.size + 1 = gv := by omega
        have hl_L_4 := isRow.lt L_4
        have ne_L_4_0 : ¬ lv = v4.heap.size := by omega
        have en_L_4_0 : ¬ v4.heap.size = lv := by omega
        have ne_L_4_1 : ¬ lv = v4.heap.size + 1 := by omega
        have en_L_4_1 : ¬ v4.heap.size + 1 = lv := by omega
        have hl_F_4 := isRow.lt F_4
        have ne_F_4_0 : ¬ gF = v4.heap.size := by omega
        have en_F_4_0 : ¬ v4.heap.size = gF := by omega
        have ne_F_4_1 : ¬ gF = v4.heap.size + 1 := by omega
        have en_F_4_1 : ¬ v4.heap.size + 1 = gF := by omega
        have hl_E1_4 := isRow.lt E1_4
        have ne_E1_4_0 : ¬ v3.heap.size = v4.heap.size := by omega
        have en_E1_4_0 : ¬ v4.heap.size = v3.heap.size := by omega
        have ne_E1_4_1 : ¬ v3.heap.size = v4.heap.size + 1 := by omega
        have en_E1_4_1 : ¬ v4.heap.size + 1 = v3.heap.size := by omega
        refine wp_region_held_drew (S := fun w' => isRow w' gv ∧ rowAt w' gv = #[.int .i64 m, .int .i64 p0, .int .i64 p1, .bool o0, .bool o1, .bool false, .int .u32 a, .int .u32 b, .slice (some ⟨lv, 0, none⟩) ys.length ys.length, .int .i64 lost] ∧ isRow w' lv ∧ rowAt w' lv = (FA (setSt (setSt ys k 2) k 0)) ∧ isRow w' gF ∧ rowAt w' gF = #[.int .i64 m, .int .i64 p0, .int .i64 p1, .bool o0, .bool o1, .bool false, .int .u32 a, .int .u32 b] ∧ isRow w' v3.heap.size ∧ rowAt w' v3.heap.size = #[.bool true, .int .i64 MM] ∧ Below w.heap.size w w') (by kernel_rfl) ⟨V_4, V_4', L_4, L_4', F_4, F_4', E1_4, E1_4', below_drew0 hB_4⟩ (fun hHeld => ?_)
        refine tk 0 ⟨some 137, .move (.tmp 10), 24, "law.go:227", #[], none⟩ ?_ ?_ ?_
        rotate_left
        · (intro w_ hS_; (try dsimp only at hS_); go_simp; try with_reducible rfl)
        try simp only [Act.put, List.setIfInBounds_toArray, List.set_cons_zero, List.set_cons_succ]
        refine tk 1 ⟨some 138, .nilCheck (.tmp 137), 0, "law.go:227", #[⟨0, .data⟩], none⟩ ?_ ?_ ?_
        rotate_left
        · (intro w_ hS_; (try dsimp only at hS_); go_simp; try with_reducible rfl)
        try simp only [Act.put, List.setIfInBounds_toArray, List.set_cons_zero, List.set_cons_succ]
        refine tk 2 ⟨some 139, .fieldAddr 37 (.tmp 138) 0, 0, "law.go:227", #[⟨1, .data⟩], none⟩ ?_ ?_ ?_
        rotate_left
        · (intro w_ hS_; (try dsimp only at hS_); go_simp; try with_reducible rfl)
        try simp only [Act.put, List.setIfInBounds_toArray, List.set_cons_zero, List.set_cons_succ]
        refine tk 3 ⟨some 140, .load 35 (.tmp 139), 35, "law.go:227", #[⟨2, .data⟩], none⟩ ?_ ?_ ?_
        rotate_left
        · (intro w_ hS_; (try dsimp only at hS_); go_simp; try with_reducible rfl)
        try simp only [Act.put, List.setIfInBounds_toArray, List.set_cons_zero, List.set_cons_succ]
        refine tk 4 ⟨some 141, .load 35 (.tmp 12), 35, "law.go:227", #[], none⟩ ?_ ?_ ?_
        rotate_left
        · (intro w_ hS_; (try dsimp only at hS_); go_simp; try with_reducible rfl)
        try simp only [Act.put, List.setIfInBounds_toArray, List.set_cons_zero, List.set_cons_succ]
        refine tk 5 ⟨some 142, .binOp .neq 35 (.tmp 140) (.tmp 141) 35, 4, "law.go:227", #[⟨3, .data⟩, ⟨4, .data⟩], none⟩ ?_ ?_ ?_
        rotate_left
        · (intro w_ hS_; (try dsimp only at hS_); go_simp; try with_reducible rfl)
        try simp only [Act.put, List.setIfInBounds_toArray, List.set_cons_zero, List.set_cons_succ]
        refine tk 6 ⟨some 143, .move (.tmp 142), 4, "law.go:227", #[⟨5, .data⟩], none⟩ ?_ ?_ ?_
        rotate_left
        · (intro w_ hS_; (try dsimp only at hS_); go_simp; try with_reducible rfl)
        try simp only [Act.put, List.setIfInBounds_toArray, List.set_cons_zero, List.set_cons_succ]
        refine tk 7 ⟨some 144, .move (.tmp 10), 24, "law.go:227", #[⟨6, .guard⟩], some (6, false)⟩ ?_ ?_ ?_
        rotate_left
        · (intro w_ hS_; (try dsimp only at hS_); go_simp; try with_reducible rfl)
        try simp only [Act.put, List.setIfInBounds_toArray, List.set_cons_zero, List.set_cons_succ]
        refine tk 8 ⟨some 145, .nilCheck (.tmp 144), 0, "law.go:227", #[⟨7, .data⟩, ⟨6, .guard⟩], some (6, false)⟩ ?_ ?_ ?_
        rotate_left
        · (intro w_ hS_; (try dsimp only at hS_); go_simp; try with_reducible rfl)
        try simp only [Act.put, List.setIfInBounds_toArray, List.set_cons_zero, List.set_cons_succ]
        refine tk 9 ⟨some 146, .fieldAddr 37 (.tmp 145) 1, 0, "law.go:227", #[⟨8, .data⟩, ⟨6, .guard⟩], some (6, false)⟩ ?_ ?_ ?_
        rotate_left
        · (intro w_ hS_; (try dsimp only at hS_); go_simp; try with_reducible rfl)
        try simp only [Act.put, List.setIfInBounds_toArray, List.set_cons_zero, List.set_cons_succ]
        refine tk 10 ⟨some 147, .load 22 (.tmp 146), 22, "law.go:227", #[⟨9, .data⟩, ⟨6, .guard⟩], some (6, false)⟩ ?_ ?_ ?_
        rotate_left
        · (intro w_ hS_; (try dsimp only at hS_); go_simp; try with_reducible rfl)
        try simp only [Act.put, List.setIfInBounds_toArray, List.set_cons_zero, List.set_cons_succ]
        refine tk 11 ⟨some 148, .move (.tmp 14), 3, "law.go:227", #[⟨6, .guard⟩], some (6, false)⟩ ?_ ?_ ?_
        rotate_left
        · (intro w_ hS_; (try dsimp only at hS_); go_simp; try with_reducible rfl)
        try simp only [Act.put, List.setIfInBounds_toArray, List.set_cons_zero, List.set_cons_succ]
        refine wpAnyH_ready (rs := [12]) (by kernel_rfl) (by simp) ?_
        refine AllReadyH.cons (o := ⟨some 149, .call ⟨.value (.func 22), #[.tmp 147, .tmp 148], #[22, 3]⟩, 3, "law.go:227", #[⟨10, .data⟩, ⟨11, .data⟩, ⟨6, .chain⟩, ⟨6, .guard⟩], some (6, false)⟩) rfl (fun K hK => ?_) AllReadyH.nil
        go_simp
        (have hq_ := hHeld; (try dsimp only at hq_); go_split_ands)
        refine (HF2.out _ (by assumption) (by assumption)).mono ?_
        rintro e w4 ⟨rfl, hb⟩
        refine hK.out _ _ ?_ (fun hHeld => ?_)
        · (go_split_ands; exact ⟨rk1 (by assumption) hb, rk2 (by assumption) (by assumption) hb, rk1 (by assumption) hb, rk2 (by assumption) (by assumption) hb, rk1 (by assumption) hb, rk2 (by assumption) (by assumption) hb, rk1 (by assumption) hb, rk2 (by assumption) (by assumption) hb, bk (by assumption) (Below.size (by assumption)) hb⟩)
        clear hK K
        try simp only [Act.put, List.setIfInBounds_toArray, List.set_cons_zero, List.set_cons_succ]
        refine tk 13 ⟨some 150, .binOp .geq 3 (.tmp 149) (.const (.int .i64 0)) 3, 4, "law.go:227", #[⟨12, .data⟩, ⟨6, .guard⟩], some (6, false)⟩ ?_ ?_ ?_
        rotate_left
        · (intro w_ hS_; (try dsimp only at hS_); go_simp; try with_reducible rfl)
        try simp only [Act.put, List.setIfInBounds_toArray, List.set_cons_zero, List.set_cons_succ]
        refine tk 14 ⟨some 151, .pick (.tmp 143) (.const (.bool true)) (.tmp 150), 4, "law.go:227", #[⟨6, .data⟩, ⟨13, .data⟩], none⟩ ?_ ?_ ?_
        rotate_left
        · (intro w_ hS_; (try dsimp only at hS_); go_simp; try with_reducible rfl)
        try simp only [Act.put, List.setIfInBounds_toArray, List.set_cons_zero, List.set_cons_succ]
        refine tk 15 ⟨some 152, .move (.tmp 151), 4, "law.go:227", #[⟨14, .data⟩, ⟨12, .chain⟩], none⟩ ?_ ?_ ?_
        rotate_left
        · (intro w_ hS_; (try dsimp only at hS_); go_simp; try with_reducible rfl)
        try simp only [Act.put, List.setIfInBounds_toArray, List.set_cons_zero, List.set_cons_succ]
        refine tk 16 ⟨some 153, .move (.tmp 10), 24, "law.go:227", #[⟨15, .guard⟩], some (15, false)⟩ ?_ ?_ ?_
        rotate_left
        · (intro w_ hS_; (try dsimp only at hS_); go_simp; try with_reducible rfl)
        try simp only [Act.put, List.setIfInBounds_toArray, List.set_cons_zero, List.set_cons_succ]
        refine tk 17 ⟨some 154, .nilCheck (.tmp 153), 0, "law.go:227", #[⟨16, .data⟩, ⟨15, .guard⟩], some (15, false)⟩ ?_ ?_ ?_
        rotate_left
        · (intro w_ hS_; (try dsimp only at hS_); go_simp; try with_reducible rfl)
        try simp only [Act.put, List.setIfInBounds_toArray, List.set_cons_zero, List.set_cons_succ]
        refine tk 18 ⟨some 155, .fieldAddr 37 (.tmp 154) 2, 0, "law.go:227", #[⟨17, .data⟩, ⟨15, .guard⟩], some (15, false)⟩ ?_ ?_ ?_
        rotate_left
        · (intro w_ hS_; (try dsimp only at hS_); go_simp; try with_reducible rfl)
        try simp only [Act.put, List.setIfInBounds_toArray, List.set_cons_zero, List.set_cons_succ]
        refine tk 19 ⟨some 156, .load 3 (.tmp 155), 3, "law.go:227", #[⟨18, .data⟩, ⟨15, .guard⟩], some (15, false)⟩ ?_ ?_ ?_
        rotate_left
        · (intro w_ hS_; (try dsimp only at hS_); go_simp; try with_reducible rfl)
        try simp only [Act.put, List.setIfInBounds_toArray, List.set_cons_zero, List.set_cons_succ]
        refine tk 20 ⟨some 157, .move (.tmp 13), 3, "law.go:227", #[⟨15, .guard⟩], some (15, false)⟩ ?_ ?_ ?_
        rotate_left
        · (intro w_ hS_; (try dsimp only at hS_); go_simp; try with_reducible rfl)
        try simp only [Act.put, List.setIfInBounds_toArray, List.set_cons_zero, List.set_cons_succ]
        refine tk 21 ⟨some 158, .binOp .neq 3 (.tmp 156) (.tmp 157) 3, 4, "law.go:227", #[⟨19, .data⟩, ⟨20, .data⟩, ⟨15, .guard⟩], some (15, false)⟩ ?_ ?_ ?_
        rotate_left
        · (intro w_ hS_; (try dsimp only at hS_); go_simp; try with_reducible rfl)
        try simp only [Act.put, List.setIfInBounds_toArray, List.set_cons_zero, List.set_cons_succ]
        refine tk 22 ⟨some 159, .pick (.tmp 152) (.const (.bool true)) (.tmp 158), 4, "law.go:227", #[⟨15, .data⟩, ⟨21, .data⟩], none⟩ ?_ ?_ ?_
        rotate_left
        · (intro w_ hS_; (try dsimp only at hS_); go_simp; try with_reducible rfl)
        try simp only [Act.put, List.setIfInBounds_toArray, List.set_cons_zero, List.set_cons_succ]
        refine wpAnyH_done (by kernel_rfl) ?_ _
        (try dsimp only at hHeld)
        go_split_ands
        go_wp2_with fail
        refine wp_named (fun W_ => (isRow W_ gv ∧ rowAt W_ gv = #[.int .i64 m, .int .i64 p0, .int .i64 p1, .bool o0, .bool o1, .bool false, .int .u32 a, .int .u32 b, .slice (some ⟨lv, 0, none⟩) ys.length ys.length, .int .i64 lost]) ∧ (isRow W_ lv ∧ rowAt W_ lv = (FA (setSt (setSt ys k 2) k 0))) ∧ (isRow W_ gF ∧ rowAt W_ gF = #[.int .i64 m, .int .i64 p0, .int .i64 p1, .bool o0, .bool o1, .bool false, .int .u32 a, .int .u32 b]) ∧ (isRow W_ v3.heap.size ∧ rowAt W_ v3.heap.size = #[.bool true, .int .i64 MM]) ∧ Below w.heap.size w W_) (by refine ⟨⟨by go_simp, by go_simp⟩, ⟨by go_simp, by go_simp⟩, ⟨by go_simp, by go_simp⟩, ⟨by go_simp, by go_simp⟩, by go_simp⟩) ?_
        rintro v5 ⟨⟨V_5, V_5'⟩, ⟨L_5, L_5'⟩, ⟨F_5, F_5'⟩, ⟨E1_5, E1_5'⟩, hB_5⟩
        have hz_5 : w.heap.size ≤ v5.heap.size := hB_5.size
        have hl_V_5 := isRow.lt V_5
        have ne_V_5_0 : ¬ gv = v5.heap.size := by omega
        have en_V_5_0 : ¬ v5.heap.size = gv := by omega
        have ne_V_5_1 : ¬ gv = v5.heap.size + 1 := by omega
        have en_V_5_1 : ¬ v5.heap.size + 1 = gv := by omega
        have hl_L_5 := isRow.lt L_5
        have ne_L_5_0 : ¬ lv = v5.heap.size := by omega
        have en_L_5_0 : ¬ v5.heap.size = lv := by omega
        have ne_L_5_1 : ¬ lv = v5.heap.size + 1 := by omega
        have en_L_5_1 : ¬ v5.heap.size + 1 = lv := by omega
        have hl_F_5 := isRow.lt F_5
        have ne_F_5_0 : ¬ gF = v5.heap.size := by omega
        have en_F_5_0 : ¬ v5.heap.size = gF := by omega
        have ne_F_5_1 : ¬ gF = v5.heap.size + 1 := by omega
        have en_F_5_1 : ¬ v5.heap.size + 1 = gF := by omega
        have hl_E1_5 := isRow.lt E1_5
        have ne_E1_5_0 : ¬ v3.heap.size = v5.heap.size := by omega
        have en_E1_5_0 : ¬ v5.heap.size = v3.heap.size := by omega
        have ne_E1_5_1 : ¬ v3.heap.size = v5.heap.size + 1 := by omega
        have en_E1_5_1 : ¬ v5.heap.size + 1 = v3.heap.size := by omega
        refine wp_region_held_drew (S := fun w' => isRow w' gv ∧ rowAt w' gv = #[.int .i64 m, .int .i64 p0, .int .i64 p1, .bool o0, .bool o1, .bool false, .int .u32 a, .int .u32 b, .slice (some ⟨lv, 0, none⟩) ys.length ys.length, .int .i64 lost] ∧ isRow w' lv ∧ rowAt w' lv = (FA (setSt (setSt ys k 2) k 0)) ∧ isRow w' gF ∧ rowAt w' gF = #[.int .i64 m, .int .i64 p0, .int .i64 p1, .bool o0, .bool o1, .bool false, .int .u32 a, .int .u32 b] ∧ isRow w' v3.heap.size ∧ rowAt w' v3.heap.size = #[.bool true, .int .i64 MM] ∧ Below w.heap.size w w') (by kernel_rfl) ⟨V_5, V_5', L_5, L_5', F_5, F_5', E1_5, E1_5', below_drew0 hB_5⟩ (fun hHeld => ?_)
        refine tk 0 ⟨some 160, .move (.tmp 14), 3, "law.go:230", #[], none⟩ ?_ ?_ ?_
        rotate_left
        · (intro w_ hS_; (try dsimp only at hS_); go_simp; try with_reducible rfl)
        try simp only [Act.put, List.setIfInBounds_toArray, List.set_cons_zero, List.set_cons_succ]
        refine tk 1 ⟨some 161, .binOp .geq 3 (.tmp 160) (.const (.int .i64 8192)) 3, 4, "law.go:230", #[⟨0, .data⟩], none⟩ ?_ ?_ ?_
        rotate_left
        · (intro w_ hS_; (try dsimp only at hS_); go_simp; try with_reducible rfl)
        try simp only [Act.put, List.setIfInBounds_toArray, List.set_cons_zero, List.set_cons_succ]
        refine tk 2 ⟨some 162, .move (.tmp 161), 4, "law.go:230", #[⟨1, .data⟩], none⟩ ?_ ?_ ?_
        rotate_left
        · (intro w_ hS_; (try dsimp only at hS_); go_simp; try with_reducible rfl)
        try simp only [Act.put, List.setIfInBounds_toArray, List.set_cons_zero, List.set_cons_succ]
        refine tu 3 ⟨some 163, .fieldAddr 57 (.tmp 18) 0, 0, "law.go:230", #[⟨2, .guard⟩], some (2, true)⟩ ?_
        try simp only [Act.put, List.setIfInBounds_toArray, List.set_cons_zero, List.set_cons_succ]
        refine tu 4 ⟨some 164, .load 4 (.tmp 163), 4, "law.go:230", #[⟨3, .data⟩, ⟨2, .guard⟩], some (2, true)⟩ ?_
        try simp only [Act.put, List.setIfInBounds_toArray, List.set_cons_zero, List.set_cons_succ]
        refine tu 5 ⟨some 165, .unOp .not 4 (.tmp 164), 4, "law.go:230", #[⟨4, .data⟩, ⟨2, .guard⟩], some (2, true)⟩ ?_
        try simp only [Act.put, List.setIfInBounds_toArray, List.set_cons_zero, List.set_cons_succ]
        refine tk 6 ⟨some 166, .pick (.tmp 162) (.tmp 165) (.const (.bool false)), 4, "law.go:230", #[⟨2, .data⟩, ⟨5, .data⟩], none⟩ ?_ ?_ ?_
        rotate_left
        · (intro w_ hS_; (try dsimp only at hS_); go_simp; try with_reducible rfl)
        try simp only [Act.put, List.setIfInBounds_toArray, List.set_cons_zero, List.set_cons_succ]
        refine tk 7 ⟨some 167, .move (.tmp 166), 4, "law.go:230", #[⟨6, .data⟩, ⟨2, .chain⟩], none⟩ ?_ ?_ ?_
        rotate_left
        · (intro w_ hS_; (try dsimp only at hS_); go_simp; try with_reducible rfl)
        try simp only [Act.put, List.setIfInBounds_toArray, List.set_cons_zero, List.set_cons_succ]
        refine tk 8 ⟨some 168, .move (.tmp 14), 3, "law.go:230", #[⟨7, .guard⟩], some (7, false)⟩ ?_ ?_ ?_
        rotate_left
        · (intro w_ hS_; (try dsimp only at hS_); go_simp; try with_reducible rfl)
        try simp only [Act.put, List.setIfInBounds_toArray, List.set_cons_zero, List.set_cons_succ]
        refine tk 9 ⟨some 169, .binOp .lss 3 (.tmp 168) (.const (.int .i64 8192)) 3, 4, "law.go:230", #[⟨8, .data⟩, ⟨7, .guard⟩], some (7, false)⟩ ?_ ?_ ?_
        rotate_left
        · (intro w_ hS_; (try dsimp only at hS_); go_simp; try with_reducible rfl)
        try simp only [Act.put, List.setIfInBounds_toArray, List.set_cons_zero, List.set_cons_succ]
        refine tk 10 ⟨some 170, .move (.tmp 169), 4, "law.go:230", #[⟨9, .data⟩, ⟨7, .chain⟩, ⟨7, .guard⟩], some (7, false)⟩ ?_ ?_ ?_
        rotate_left
        · (intro w_ hS_; (try dsimp only at hS_); go_simp; try with_reducible rfl)
        try simp only [Act.put, List.setIfInBounds_toArray, List.set_cons_zero, List.set_cons_succ]
        refine tk 11 ⟨some 171, .move (.tmp 15), 3, "law.go:230", #[⟨10, .guard⟩], some (10, true)⟩ ?_ ?_ ?_
        rotate_left
        · (intro w_ hS_; (try dsimp only at hS_); go_simp; try with_reducible rfl)
        try simp only [Act.put, List.setIfInBounds_toArray, List.set_cons_zero, List.set_cons_succ]
        refine tk 12 ⟨some 172, .binOp .geq 3 (.tmp 171) (.const (.int .i64 0)) 3, 4, "law.go:230", #[⟨11, .data⟩, ⟨10, .guard⟩], some (10, true)⟩ ?_ ?_ ?_
        rotate_left
        · (intro w_ hS_; (try dsimp only at hS_); go_simp; try with_reducible rfl)
        try simp only [Act.put, List.setIfInBounds_toArray, List.set_cons_zero, List.set_cons_succ]
        refine tk 13 ⟨some 173, .pick (.tmp 170) (.tmp 172) (.const (.bool false)), 4, "law.go:230", #[⟨10, .data⟩, ⟨12, .data⟩, ⟨7, .guard⟩], some (7, false)⟩ ?_ ?_ ?_
        rotate_left
        · (intro w_ hS_; (try dsimp only at hS_); go_simp; try with_reducible rfl)
        try simp only [Act.put, List.setIfInBounds_toArray, List.set_cons_zero, List.set_cons_succ]
        refine tk 14 ⟨some 174, .move (.tmp 173), 4, "law.go:230", #[⟨13, .data⟩, ⟨10, .chain⟩, ⟨7, .guard⟩], some (7, false)⟩ ?_ ?_ ?_
        rotate_left
        · (intro w_ hS_; (try dsimp only at hS_); go_simp; try with_reducible rfl)
        try simp only [Act.put, List.setIfInBounds_toArray, List.set_cons_zero, List.set_cons_succ]
        refine tk 15 ⟨some 175, .fieldAddr 57 (.tmp 18) 0, 0, "law.go:230", #[⟨14, .guard⟩], some (14, true)⟩ ?_ ?_ ?_
        rotate_left
        · (intro w_ hS_; (try dsimp only at hS_); go_simp; try with_reducible rfl)
        try simp only [Act.put, List.setIfInBounds_toArray, List.set_cons_zero, List.set_cons_succ]
        refine tk 16 ⟨some 176, .load 4 (.tmp 175), 4, "law.go:230", #[⟨15, .data⟩, ⟨14, .guard⟩], some (14, true)⟩ ?_ ?_ ?_
        rotate_left
        · (intro w_ hS_; (try dsimp only at hS_); go_simp; try with_reducible rfl)
        try simp only [Act.put, List.setIfInBounds_toArray, List.set_cons_zero, List.set_cons_succ]
        refine tk 17 ⟨some 177, .pick (.tmp 174) (.tmp 176) (.const (.bool false)), 4, "law.go:230", #[⟨14, .data⟩, ⟨16, .data⟩, ⟨7, .guard⟩], some (7, false)⟩ ?_ ?_ ?_
        rotate_left
        · (intro w_ hS_; (try dsimp only at hS_); go_simp; try with_reducible rfl)
        try simp only [Act.put, List.setIfInBounds_toArray, List.set_cons_zero, List.set_cons_succ]
        refine tk 18 ⟨some 178, .move (.tmp 177), 4, "law.go:230", #[⟨17, .data⟩, ⟨14, .chain⟩, ⟨7, .guard⟩], some (7, false)⟩ ?_ ?_ ?_
        rotate_left
        · (intro w_ hS_; (try dsimp only at hS_); go_simp; try with_reducible rfl)
        try simp only [Act.put, List.setIfInBounds_toArray, List.set_cons_zero, List.set_cons_succ]
        refine tk 19 ⟨some 179, .move (.tmp 10), 24, "law.go:230", #[⟨18, .guard⟩], some (18, true)⟩ ?_ ?_ ?_
        rotate_left
        · (intro w_ hS_; (try dsimp only at hS_); go_simp; try with_reducible rfl)
        try simp only [Act.put, List.setIfInBounds_toArray, List.set_cons_zero, List.set_cons_succ]
        refine tk 20 ⟨some 180, .nilCheck (.tmp 179), 0, "law.go:230", #[⟨19, .data⟩, ⟨18, .guard⟩], some (18, true)⟩ ?_ ?_ ?_
        rotate_left
        · (intro w_ hS_; (try dsimp only at hS_); go_simp; try with_reducible rfl)
        try simp only [Act.put, List.setIfInBounds_toArray, List.set_cons_zero, List.set_cons_succ]
        refine tk 21 ⟨some 181, .fieldAddr 37 (.tmp 180) 1, 0, "law.go:230", #[⟨20, .data⟩, ⟨18, .guard⟩], some (18, true)⟩ ?_ ?_ ?_
        rotate_left
        · (intro w_ hS_; (try dsimp only at hS_); go_simp; try with_reducible rfl)
        try simp only [Act.put, List.setIfInBounds_toArray, List.set_cons_zero, List.set_cons_succ]
        refine tk 22 ⟨some 182, .load 22 (.tmp 181), 22, "law.go:230", #[⟨21, .data⟩, ⟨18, .guard⟩], some (18, true)⟩ ?_ ?_ ?_
        rotate_left
        · (intro w_ hS_; (try dsimp only at hS_); go_simp; try with_reducible rfl)
        try simp only [Act.put, List.setIfInBounds_toArray, List.set_cons_zero, List.set_cons_succ]
        refine tk 23 ⟨some 183, .move (.tmp 15), 3, "law.go:230", #[⟨18, .guard⟩], some (18, true)⟩ ?_ ?_ ?_
        rotate_left
        · (intro w_ hS_; (try dsimp only at hS_); go_simp; try with_reducible rfl)
        try simp only [Act.put, List.setIfInBounds_toArray, List.set_cons_zero, List.set_cons_succ]
        refine tk 24 ⟨some 184, .indexAddr 22 (.tmp 182) (.tmp 183), 0, "law.go:230", #[⟨22, .data⟩, ⟨23, .data⟩, ⟨18, .guard⟩], some (18, true)⟩ ?_ ?_ ?_
        rotate_left
        · (intro w_ hS_; (try dsimp only at hS_); go_simp; try with_reducible rfl)
        try simp only [Act.put, List.setIfInBounds_toArray, List.set_cons_zero, List.set_cons_succ]
        refine tk 25 ⟨some 185, .load 54 (.tmp 184), 54, "law.go:230", #[⟨24, .data⟩, ⟨18, .guard⟩], some (18, true)⟩ ?_ ?_ ?_
        rotate_left
        · (intro w_ hS_; (try dsimp only at hS_); go_simp; try with_reducible rfl)
        try simp only [Act.put, List.setIfInBounds_toArray, List.set_cons_zero, List.set_cons_succ]
        refine tk 26 ⟨some 186, .load 57 (.tmp 18), 57, "law.go:230", #[⟨18, .guard⟩], some (18, true)⟩ ?_ ?_ ?_
        rotate_left
        · (intro w_ hS_; (try dsimp only at hS_); go_simp; try with_reducible rfl)
        try simp only [Act.put, List.setIfInBounds_toArray, List.set_cons_zero, List.set_cons_succ]
        refine wpAnyH_ready (rs := [27]) (by kernel_rfl) (by simp) ?_
        refine AllReadyH.cons (o := ⟨some 187, .call ⟨.value (.func 25), #[.tmp 185, .tmp 186], #[54, 57]⟩, 4, "law.go:230", #[⟨25, .data⟩, ⟨26, .data⟩, ⟨18, .chain⟩, ⟨18, .guard⟩], some (18, true)⟩) rfl (fun K hK => ?_) AllReadyH.nil
        go_simp
        (have hq_ := hHeld; (try dsimp only at hq_); go_split_ands)
        refine (HED.out _).mono ?_
        rintro e w4 ⟨rfl, hb⟩
        refine hK.out _ _ ?_ (fun hHeld => ?_)
        · (go_split_ands; exact ⟨rk1 (by assumption) hb, rk2 (by assumption) (by assumption) hb, rk1 (by assumption) hb, rk2 (by assumption) (by assumption) hb, rk1 (by assumption) hb, rk2 (by assumption) (by assumption) hb, rk1 (by assumption) hb, rk2 (by assumption) (by assumption) hb, bk (by assumption) (Below.size (by assumption)) hb⟩)
        clear hK K
        try simp only [Act.put, List.setIfInBounds_toArray, List.set_cons_zero, List.set_cons_succ]
        refine tk 28 ⟨some 188, .pick (.tmp 178) (.tmp 187) (.const (.bool false)), 4, "law.go:230", #[⟨18, .data⟩, ⟨27, .data⟩, ⟨7, .guard⟩], some (7, false)⟩ ?_ ?_ ?_
        rotate_left
        · (intro w_ hS_; (try dsimp only at hS_); go_simp; try with_reducible rfl)
        try simp only [Act.put, List.setIfInBounds_toArray, List.set_cons_zero, List.set_cons_succ]
        refine tk 29 ⟨some 189, .pick (.tmp 167) (.const (.bool true)) (.tmp 188), 4, "law.go:230", #[⟨7, .data⟩, ⟨28, .data⟩], none⟩ ?_ ?_ ?_
        rotate_left
        · (intro w_ hS_; (try dsimp only at hS_); go_simp; try with_reducible rfl)
        try simp only [Act.put, List.setIfInBounds_toArray, List.set_cons_zero, List.set_cons_succ]
        refine tk 30 ⟨some 8, .assign (.tmp 189), 4, "law.go:230", #[⟨29, .data⟩, ⟨27, .chain⟩, ⟨0, .phase⟩, ⟨1, .phase⟩, ⟨2, .phase⟩, ⟨3, .phase⟩, ⟨4, .phase⟩, ⟨5, .phase⟩, ⟨6, .phase⟩, ⟨7, .phase⟩, ⟨8, .phase⟩, ⟨9, .phase⟩, ⟨10, .phase⟩, ⟨11, .phase⟩, ⟨12, .phase⟩, ⟨13, .phase⟩, ⟨14, .phase⟩, ⟨15, .phase⟩, ⟨16, .phase⟩, ⟨17, .phase⟩, ⟨18, .phase⟩, ⟨19, .phase⟩, ⟨20, .phase⟩, ⟨21, .phase⟩, ⟨22, .phase⟩, ⟨23, .phase⟩, ⟨24, .phase⟩, ⟨25, .phase⟩, ⟨26, .phase⟩, ⟨27, .phase⟩, ⟨28, .phase⟩, ⟨29, .phase⟩], none⟩ ?_ ?_ ?_
        rotate_left
        · (intro w_ hS_; (try dsimp only at hS_); go_simp; try with_reducible rfl)
        try simp only [Act.put, List.setIfInBounds_toArray, List.set_cons_zero, List.set_cons_succ]
        refine wpAnyH_done (by kernel_rfl) ?_ _
        (try dsimp only at hHeld)
        go_split_ands
        go_wp2
        go_ret
        exact ⟨rfl, by assumption⟩
end Go.Proofs.Ytkbaghblchlcnaa.Lr
