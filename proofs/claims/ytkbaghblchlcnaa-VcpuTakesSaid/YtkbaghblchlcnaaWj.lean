/- The law VcpuTakes, walked. -/
import Derived.Test.YtkbaghblchlcnaaB20
namespace Go.Proofs.Ytkbaghblchlcnaa.Lr
open Go.RowKit Go.Shelf Go.Proofs.YtkbaghblchlcnaaW.PrintWords Go.Proofs.Ytkbaghblchlcnaa.IAll
attribute [local go_sem] Oper.semAt_some cell_row frozen_row isRow_setCell_eq rowAt_setCell_same rowAt_setCell_other isRow_alloc_eq rowAt_alloc rowAt_new rowAt_new' isRow_setRow_eq rowAt_setRow_same rowAt_setRow_other isRow_drew rowAt_drew size_setRow_ Lb_size Lb_at blk_ptr aggOf_agg below_alloc_e below_setCell_e below_setRow_e below_refl_e below_drew_r aside2_alloc_e aside2_setCell_e aside2_setRow_e aside2_drew_e aside2_refl_e aside2_drewN_e isRow_drewN rowAt_drewN below_drewN_e le_add_r offv_ptr one_lad zero_lad allOne_nil allOne_cons Value.oneCell' addr_at FA_size one_FA FA_size
attribute [local go_sem ↓] storeI storeC
attribute [local go_sem] eq2i eq2b eq2u
theorem same_n {w : World} {ob bl c d n : Nat} {cs : Array Value} {xs : List S54} (hn : xs.length = n) (h16 : n ≤ 16) (h : isRow w ob) (h' : rowAt w ob = cs) (hp : Pre cs xs) (hc : n ≤ c) (hl : isRow w bl) (hl' : rowAt w bl = FA xs) (hd : n ≤ d) :
    Calls Try.prog 21 #[.slice (some ⟨ob, 0, none⟩) n c, .slice (some ⟨bl, 0, none⟩) n d] w fun e w' => e = .returned (.bool true) ∧ Below w.heap.size w w' := by
  subst hn; exact same_c h16 h h' hp hc hl hl' hd
set_option maxRecDepth 100000 in
set_option maxHeartbeats 4000000 in
theorem takes_law (c : Int) (c0 : 0 ≤ c) (m' p0' p1' : Int) (o0' o1' sp' : Bool) (a' b' : Int) (ha : 0 ≤ a') (ha2 : a' ≤ 4294967295) (hb : 0 ≤ b') (hb2 : b' ≤ 4294967295) (w : World) (B : Option Addr) (cB : Nat) (sc : List VA) (hS : ScOk w B sc) (gp : Int) :
    Calls Try.prog 4 #[.int .u8 c, .agg #[.int .i64 m', .int .i64 p0', .int .i64 p1', .bool o0', .bool o1', .bool sp', .int .u32 a', .int .u32 b'], .slice B sc.length cB, .int .i64 gp] w fun e w' => e = .returned (.bool true) ∧ Below w.heap.size w w' := by
  obtain ⟨n, hn, h1, h2⟩ : ∃ n : Nat, 1 + c % 16 = (n : Int) ∧ 1 ≤ n ∧ n ≤ 16 := ⟨(1 + c % 16).toNat, by omega, by omega, by omega⟩
  have hO := (runA_ok n ⟨m', p0', p1', o0', o1', sp', a', b', List.replicate n z54, 0⟩ sc ⟨List.length_replicate, h2, by omega, rep_st n, Int.le_refl 0, by show (0 : Int) ≤ 4611686018427387904; omega⟩ rfl hS.len) sc.length (Nat.le_refl _)
  have hG := (runA_gd n ⟨m', p0', p1', o0', o1', sp', a', b', List.replicate n z54, 0⟩ sc ⟨List.length_replicate, h2, by omega, rep_st n, Int.le_refl 0, by show (0 : Int) ≤ 4611686018427387904; omega⟩ rfl hS.len (gd_rep n)) sc.length (Nat.le_refl _)
  have HP := Lib.hid (fun (W : World) (h : ScOk W B sc) => played_c n h1 h2 c hn c0 m' p0' p1' o0' o1' sp' a' b' ha ha2 hb hb2 W B cB sc h)
  have HS := Lib.hid hS
  clear hS
  generalize runA n ⟨m', p0', p1', o0', o1', sp', a', b', List.replicate n z54, 0⟩ sc sc.length = s at *
  obtain ⟨⟨hlen, h16, h0, hst, hlo, hhi⟩, -⟩ := hO
  obtain ⟨m, p0, p1, o0, o1, sp, a, b, ys, lost⟩ := s
  simp only at hlen hst hlo hhi hG
  subst hlen
  go_enter Try.func4, Try.ntmps4
  have hB_0 : Below w.heap.size w w := Below.refl _ _
  go_wp2_with fail
  refine (awake_c _).mono ?_
  rintro e v1 ⟨rfl, hb1⟩
  obtain ⟨F_1, F_1'⟩ : Row v1 w.heap.size #[.int .i64 m', .int .i64 p0', .int .i64 p1', .bool o0', .bool o1', .bool sp', .int .u32 a', .int .u32 b'] := Row.step (by go_simp) (by go_simp) hb1
  have hB_1 : Below w.heap.size w v1 := bk (by go_simp) (by first | (go_simp; done) | (go_simp; omega) | exact Below.size (by assumption)) hb1
  clear hB_0 hb1
  have hz_1 : w.heap.size ≤ v1.heap.size := hB_1.size
  have hl_F_1 := isRow.lt F_1
  have ne_F_1_0 : ¬ w.heap.size = v1.heap.size := by omega
  have en_F_1_0 : ¬ v1.heap.size = w.heap.size := by omega
  have ne_F_1_1 : ¬ w.heap.size = v1.heap.size + 1 := by omega
  have en_F_1_1 : ¬ v1.heap.size + 1 = w.heap.size := by omega
  go_wp2_with fail
  refine (HP.out _ (HS.out.below hB_1)).mono ?_
  rintro e v0 ⟨gv, lv, rfl, hV0, hL0, n12, g1, g2, hb0⟩
  obtain ⟨V0, V0'⟩ : Row v0 gv #[.int .i64 m, .int .i64 p0, .int .i64 p1, .bool o0, .bool o1, .bool sp, .int .u32 a, .int .u32 b, .slice (some ⟨lv, 0, none⟩) ys.length ys.length, .int .i64 lost] := hV0
  obtain ⟨L0, L0'⟩ : Row v0 lv (FA ys) := hL0
  have hB0 : Below w.heap.size w v0 := bk hB_1 hB_1.size hb0
  have gw1 : w.heap.size ≤ gv := Nat.le_trans hB_1.size g1
  have gw2 : w.heap.size ≤ lv := Nat.le_trans hB_1.size g2
  have n21 : ¬ lv = gv := fun e => n12 e.symm
  clear hb0 F_1 F_1' hB_1 HP HS g1 g2 hn h1 h2
  have hB : ∀ W, isRow W gv → rowAt W gv = #[.int .i64 m, .int .i64 p0, .int .i64 p1, .bool o0, .bool o1, .bool sp, .int .u32 a, .int .u32 b, .slice (some ⟨lv, 0, none⟩) ys.length ys.length, .int .i64 lost] → isRow W lv → rowAt W lv = FA ys → Calls Try.prog 19 #[.pointer (some ⟨gv, 0, none⟩)] W fun e w' => e = .returned (.agg #[.int .i64 (best ys).id, .int .i64 (best ys).pr, .int .i64 (best ys).gr, .bool (best ys).is]) ∧ Below W.heap.size W w' := fun W q1 q2 q3 q4 =>
    vBest_w gv lv m p0 p1 o0 o1 sp a b ys.length (FA ys) lost _ _ _ _ W q1 q2 q3 q4 (Lib.hid (fun (W' : World) (h : isRow W' lv) (h' : rowAt W' lv = FA ys) => vbest h16 h h'))
  have HB := Lib.hid hB
  have HM := Lib.hid (fun W : World => May_c m p0 p1 o0 o1 sp a b (best ys).id (best ys).pr (best ys).gr (best ys).is W)
  have HF := Lib.hid (fun (W : World) (ob : Nat) (cs : Array Value) (cc : Nat) (h : isRow W ob) (h' : rowAt W ob = cs) (hp : Pre cs ys) (_ : ys.length ≤ cc) => (Find_c (some ⟨ob, 0, none⟩) cc ys (best ys).id W (pre_kd h h' hp (by omega)) (by omega)))
  clear hB
  cases hm : mayP m p0 p1 o0 o1 a b (best ys).pr (best ys).gr (best ys).is with
  | false =>
    clear HF
    have hT : ackT m p0 p1 o0 o1 a b ys gp = false := by unfold ackT takeB; rw [hm]; rfl
    obtain ⟨a2, b2, hA⟩ : ∃ a2 b2 : Int, ∀ W, isRow W gv → rowAt W gv = #[.int .i64 m, .int .i64 p0, .int .i64 p1, .bool o0, .bool o1, .bool sp, .int .u32 a, .int .u32 b, .slice (some ⟨lv, 0, none⟩) ys.length ys.length, .int .i64 lost] → isRow W lv → rowAt W lv = FA ys → Calls Try.prog 17 #[.pointer (some ⟨gv, 0, none⟩), .int .i64 gp] W fun e w' => e = .returned (.int .i64 1023) ∧ Row w' gv #[.int .i64 m, .int .i64 p0, .int .i64 p1, .bool o0, .bool o1, .bool sp, .int .u32 a2, .int .u32 b2, .slice (some ⟨lv, 0, none⟩) ys.length ys.length, .int .i64 lost] ∧ Row w' lv (FA ys) ∧ Aside2 gv lv W w' := ⟨_, _, fun W q1 q2 q3 q4 => by
      have q := ack_c gv lv m p0 p1 o0 o1 sp a b ys h16 lost gp n12 W q1 q2 q3 q4
      unfold ackId ackXs at q
      rw [if_neg (by rw [hT]; decide), if_neg (by rw [hT]; decide)] at q
      exact q⟩
    have HA := Lib.hid hA
    clear hA
    generalize hbe : best ys = bs at *
    obtain ⟨id, pr, gr, is⟩ := bs
    dsimp only at HB HM HA hm
    rw [hm] at HM
    clear hT hbe hm
    go_wp2_with (at_builtin; refine Kd.R_append_rows k54 (Rr := k54.K v0) (w0 := v0) v0.heap.size rfl _ _ 22 54 (.agg (enc z54)) 56 rfl Try.underlying22 infoL5 rfl (by decide) (by decide) _ ([] : List S54) ys (some ⟨lv, 0, none⟩) ys.length ys.length (fun _ => True) (fun _ => False) rfl rfl (Kd.R_nil _ _ _ _ _) (fa_kd L0 L0' (by omega)) (fun p cs hp => by rw [k54_open hp]; exact k54_mkM _ _ _ _) (fun _ h => h.elim) (fun _ _ => trivial) (Below.refl _ _) (by simp) (by simp; omega) ?_; intro x_ v1 hR_ hb1 _ _; refine stop_in ?_)
    refine stop_out ?_
    rw [List.nil_append] at hR_
    obtain ⟨ob, cO, csO, rfl, hcO, hob, ⟨O_1, O_1'⟩, hpO⟩ := copied hR_ h0
    clear hR_
    have ne_V_O : ¬ gv = ob := by have := isRow.lt V0; omega
    have en_V_O : ¬ ob = gv := by omega
    have ne_L_O : ¬ lv = ob := by have := isRow.lt L0; omega
    have en_L_O : ¬ ob = lv := by omega
    have hwob : w.heap.size ≤ ob := Nat.le_trans hB0.size hob
    obtain ⟨V_1, V_1'⟩ : Row v1 gv #[.int .i64 m, .int .i64 p0, .int .i64 p1, .bool o0, .bool o1, .bool sp, .int .u32 a, .int .u32 b, .slice (some ⟨lv, 0, none⟩) ys.length ys.length, .int .i64 lost] := Row.step (by go_simp) (by go_simp) hb1
    obtain ⟨L_1, L_1'⟩ : Row v1 lv (FA ys) := Row.step (by go_simp) (by go_simp) hb1
    have hB_1 : Below w.heap.size w v1 := bk (by go_simp) (by first | (go_simp; done) | (go_simp; omega) | exact Below.size (by assumption)) hb1
    clear V0 V0' L0 L0' hB0 hb1
    have hz_1 : w.heap.size ≤ v1.heap.size := hB_1.size
    have hl_V_1 := isRow.lt V_1
    have ne_V_1_0 : ¬ gv = v1.heap.size := by omega
    have en_V_1_0 : ¬ v1.heap.size = gv := by omega
    have ne_V_1_1 : ¬ gv = v1.heap.size + 1 := by omega
    have en_V_1_1 : ¬ v1.heap.size + 1 = gv := by omega
    have hl_L_1 := isRow.lt L_1
    have ne_L_1_0 : ¬ lv = v1.heap.size := by omega
    have en_L_1_0 : ¬ v1.heap.size = lv := by omega
    have ne_L_1_1 : ¬ lv = v1.heap.size + 1 := by omega
    have en_L_1_1 : ¬ v1.heap.size + 1 = lv := by omega
    have hl_O_1 := isRow.lt O_1
    have ne_O_1_0 : ¬ ob = v1.heap.size := by omega
    have en_O_1_0 : ¬ v1.heap.size = ob := by omega
    have ne_O_1_1 : ¬ ob = v1.heap.size + 1 := by omega
    have en_O_1_1 : ¬ v1.heap.size + 1 = ob := by omega
    go_wp2_with fail
    refine (HB.out _ (by go_simp) (by go_simp) (by go_simp) (by go_simp)).mono ?_
    rintro e v2 ⟨rfl, hb2⟩
    obtain ⟨V_2, V_2'⟩ : Row v2 gv #[.int .i64 m, .int .i64 p0, .int .i64 p1, .bool o0, .bool o1, .bool sp, .int .u32 a, .int .u32 b, .slice (some ⟨lv, 0, none⟩) ys.length ys.length, .int .i64 lost] := Row.step (by go_simp) (by go_simp) hb2
    obtain ⟨L_2, L_2'⟩ : Row v2 lv (FA ys) := Row.step (by go_simp) (by go_simp) hb2
    obtain ⟨O_2, O_2'⟩ : Row v2 ob csO := Row.step (by go_simp) (by go_simp) hb2
    have hB_2 : Below w.heap.size w v2 := bk (by go_simp) (by first | (go_simp; done) | (go_simp; omega) | exact Below.size (by assumption)) hb2
    clear V_1 V_1' L_1 L_1' O_1 O_1' hB_1 hb2
    have hz_2 : w.heap.size ≤ v2.heap.size := hB_2.size
    have hl_V_2 := isRow.lt V_2
    have ne_V_2_0 : ¬ gv = v2.heap.size := by omega
    have en_V_2_0 : ¬ v2.heap.size = gv := by omega
    have ne_V_2_1 : ¬ gv = v2.heap.size + 1 := by omega
    have en_V_2_1 : ¬ v2.heap.size + 1 = gv := by omega
    have hl_L_2 := isRow.lt L_2
    have ne_L_2_0 : ¬ lv = v2.heap.size := by omega
    have en_L_2_0 : ¬ v2.heap.size = lv := by omega
    have ne_L_2_1 : ¬ lv = v2.heap.size + 1 := by omega
    have en_L_2_1 : ¬ v2.heap.size + 1 = lv := by omega
    have hl_O_2 := isRow.lt O_2
    have ne_O_2_0 : ¬ ob = v2.heap.size := by omega
    have en_O_2_0 : ¬ v2.heap.size = ob := by omega
    have ne_O_2_1 : ¬ ob = v2.heap.size + 1 := by omega
    have en_O_2_1 : ¬ v2.heap.size + 1 = ob := by omega
    go_wp2_with fail
    have ne_V_X : ¬ gv = v2.heap.size := by omega
    have en_V_X : ¬ v2.heap.size = gv := by omega
    have ne_L_X : ¬ lv = v2.heap.size := by omega
    have en_L_X : ¬ v2.heap.size = lv := by omega
    have ne_O_X : ¬ ob = v2.heap.size := by omega
    have en_O_X : ¬ v2.heap.size = ob := by omega
    refine wp_named (fun W_ => (isRow W_ gv ∧ rowAt W_ gv = #[.int .i64 m, .int .i64 p0, .int .i64 p1, .bool o0, .bool o1, .bool sp, .int .u32 a, .int .u32 b, .slice (some ⟨lv, 0, none⟩) ys.length ys.length, .int .i64 lost]) ∧ (isRow W_ lv ∧ rowAt W_ lv = (FA ys)) ∧ (isRow W_ ob ∧ rowAt W_ ob = csO) ∧ (isRow W_ v2.heap.size ∧ rowAt W_ v2.heap.size = #[.int .i64 id, .int .i64 pr, .int .i64 gr, .bool is]) ∧ Below w.heap.size w W_) (by refine ⟨⟨by go_simp, by go_simp⟩, ⟨by go_simp, by go_simp⟩, ⟨by go_simp, by go_simp⟩, ⟨by go_simp, by go_simp⟩, by go_simp⟩) ?_
    rintro v3 ⟨⟨V_3, V_3'⟩, ⟨L_3, L_3'⟩, ⟨O_3, O_3'⟩, ⟨X_3, X_3'⟩, hB_3⟩
    clear V_2 V_2' L_2 L_2' O_2 O_2' hB_2
    have hz_3 : w.heap.size ≤ v3.heap.size := hB_3.size
    have hl_V_3 := isRow.lt V_3
    have ne_V_3_0 : ¬ gv = v3.heap.size := by omega
    have en_V_3_0 : ¬ v3.heap.size = gv := by omega
    have ne_V_3_1 : ¬ gv = v3.heap.size + 1 := by omega
    have en_V_3_1 : ¬ v3.heap.size + 1 = gv := by omega
    have hl_L_3 := isRow.lt L_3
    have ne_L_3_0 : ¬ lv = v3.heap.size := by omega
    have en_L_3_0 : ¬ v3.heap.size = lv := by omega
    have ne_L_3_1 : ¬ lv = v3.heap.size + 1 := by omega
    have en_L_3_1 : ¬ v3.heap.size + 1 = lv := by omega
    have hl_O_3 := isRow.lt O_3
    have ne_O_3_0 : ¬ ob = v3.heap.size := by omega
    have en_O_3_0 : ¬ v3.heap.size = ob := by omega
    have ne_O_3_1 : ¬ ob = v3.heap.size + 1 := by omega
    have en_O_3_1 : ¬ v3.heap.size + 1 = ob := by omega
    have hl_X_3 := isRow.lt X_3
    have ne_X_3_0 : ¬ v2.heap.size = v3.heap.size := by omega
    have en_X_3_0 : ¬ v3.heap.size = v2.heap.size := by omega
    have ne_X_3_1 : ¬ v2.heap.size = v3.heap.size + 1 := by omega
    have en_X_3_1 : ¬ v3.heap.size + 1 = v2.heap.size := by omega
    refine wp_region_held_drew (S := fun w' => isRow w' gv ∧ rowAt w' gv = #[.int .i64 m, .int .i64 p0, .int .i64 p1, .bool o0, .bool o1, .bool sp, .int .u32 a, .int .u32 b, .slice (some ⟨lv, 0, none⟩) ys.length ys.length, .int .i64 lost] ∧ isRow w' lv ∧ rowAt w' lv = (FA ys) ∧ isRow w' ob ∧ rowAt w' ob = csO ∧ isRow w' v2.heap.size ∧ rowAt w' v2.heap.size = #[.int .i64 id, .int .i64 pr, .int .i64 gr, .bool is] ∧ Below w.heap.size w w') (by kernel_rfl) ⟨V_3, V_3', L_3, L_3', O_3, O_3', X_3, X_3', below_drew0 hB_3⟩ (fun hHeld => ?_)
    refine wpAnyH_take (i := 0) (oi := { dst := some 38, op := Op.move (Operand.tmp 10), type := 24, pos := "law.go:181", after := #[], guard := none }) (v := ?_) rfl (by kernel_rfl) (by kernel_rfl) (by kernel_rfl) (fun _ _ _ h => h) (Or.inl ⟨by rfl, ?_⟩) (by assumption) ?_
    rotate_left
    · (intro w_ hS_; (try dsimp only at hS_); go_simp; try with_reducible rfl)
    try simp only [Act.put, List.setIfInBounds_toArray, List.set_cons_zero, List.set_cons_succ]
    refine wpAnyH_take (i := 1) (oi := { dst := some 39, op := Op.nilCheck (Operand.tmp 38), type := 0, pos := "law.go:181", after := #[{ on := 0, ground := Ground.data }], guard := none }) (v := ?_) rfl (by kernel_rfl) (by kernel_rfl) (by kernel_rfl) (fun _ _ _ h => h) (Or.inl ⟨by rfl, ?_⟩) (by assumption) ?_
    rotate_left
    · (intro w_ hS_; (try dsimp only at hS_); go_simp; try with_reducible rfl)
    try simp only [Act.put, List.setIfInBounds_toArray, List.set_cons_zero, List.set_cons_succ]
    refine wpAnyH_take (i := 2) (oi := { dst := some 40, op := Op.fieldAddr 37 (Operand.tmp 39) 0, type := 0, pos := "law.go:181", after := #[{ on := 1, ground := Ground.data }], guard := none }) (v := ?_) rfl (by kernel_rfl) (by kernel_rfl) (by kernel_rfl) (fun _ _ _ h => h) (Or.inl ⟨by rfl, ?_⟩) (by assumption) ?_
    rotate_left
    · (intro w_ hS_; (try dsimp only at hS_); go_simp; try with_reducible rfl)
    try simp only [Act.put, List.setIfInBounds_toArray, List.set_cons_zero, List.set_cons_succ]
    refine wpAnyH_take (i := 3) (oi := { dst := some 41, op := Op.load 35 (Operand.tmp 40), type := 35, pos := "law.go:181", after := #[{ on := 2, ground := Ground.data }], guard := none }) (v := ?_) rfl (by kernel_rfl) (by kernel_rfl) (by kernel_rfl) (fun _ _ _ h => h) (Or.inl ⟨by rfl, ?_⟩) (by assumption) ?_
    rotate_left
    · (intro w_ hS_; (try dsimp only at hS_); go_simp; try with_reducible rfl)
    try simp only [Act.put, List.setIfInBounds_toArray, List.set_cons_zero, List.set_cons_succ]
    refine wpAnyH_take (i := 4) (oi := { dst := some 42, op := Op.load 47 (Operand.tmp 12), type := 47, pos := "law.go:181", after := #[], guard := none }) (v := ?_) rfl (by kernel_rfl) (by kernel_rfl) (by kernel_rfl) (fun _ _ _ h => h) (Or.inl ⟨by rfl, ?_⟩) (by assumption) ?_
    rotate_left
    · (intro w_ hS_; (try dsimp only at hS_); go_simp; try with_reducible rfl)
    try simp only [Act.put, List.setIfInBounds_toArray, List.set_cons_zero, List.set_cons_succ]
    refine wpAnyH_ready (rs := [5]) (by kernel_rfl) (by simp) ?_
    refine AllReadyH.cons (o := { dst := some 43, op := Op.call { callee := Callee.value (Operand.func 20), args := #[Operand.tmp 41, Operand.tmp 42], argTypes := #[35, 47] }, type := 4, pos := "law.go:181", after := #[{ on := 3, ground := Ground.data }, { on := 4, ground := Ground.data }], guard := none }) rfl (fun K hK => ?_) AllReadyH.nil
    go_simp
    (have hq_ := hHeld; (try dsimp only at hq_); go_split_ands)
    refine (HM.out _).mono ?_
    rintro e w4 ⟨rfl, hb⟩
    refine hK.out _ _ ?_ (fun hHeld => ?_)
    · (go_split_ands; exact ⟨rk1 (by assumption) hb, rk2 (by assumption) (by assumption) hb, rk1 (by assumption) hb, rk2 (by assumption) (by assumption) hb, rk1 (by assumption) hb, rk2 (by assumption) (by assumption) hb, rk1 (by assumption) hb, rk2 (by assumption) (by assumption) hb, bk (by assumption) (Below.size (by assumption)) hb⟩)
    clear hK K
    try simp only [Act.put, List.setIfInBounds_toArray, List.set_cons_zero, List.set_cons_succ]
    refine wpAnyH_take (i := 6) (oi := { dst := some 44, op := Op.move (Operand.tmp 43), type := 4, pos := "law.go:181", after := #[{ on := 5, ground := Ground.data }, { on := 5, ground := Ground.chain }], guard := none }) (v := ?_) rfl (by kernel_rfl) (by kernel_rfl) (by kernel_rfl) (fun _ _ _ h => h) (Or.inl ⟨by rfl, ?_⟩) (by assumption) ?_
    rotate_left
    · (intro w_ hS_; (try dsimp only at hS_); go_simp; try with_reducible rfl)
    try simp only [Act.put, List.setIfInBounds_toArray, List.set_cons_zero, List.set_cons_succ]
    refine wpAnyH_take (i := 7) (oi := { dst := some 45, op := Op.fieldAddr 47 (Operand.tmp 12) 2, type := 0, pos := "law.go:181", after := #[{ on := 6, ground := Ground.guard }], guard := some (6, true) }) (v := undef) rfl (by kernel_rfl) (by kernel_rfl) (by kernel_rfl) (fun _ _ _ h => h) (Or.inr ⟨by rfl, rfl⟩) (by assumption) ?_
    try simp only [Act.put, List.setIfInBounds_toArray, List.set_cons_zero, List.set_cons_succ]
    refine wpAnyH_take (i := 8) (oi := { dst := some 46, op := Op.load 3 (Operand.tmp 45), type := 3, pos := "law.go:181", after := #[{ on := 7, ground := Ground.data }, { on := 6, ground := Ground.guard }], guard := some (6, true) }) (v := undef) rfl (by kernel_rfl) (by kernel_rfl) (by kernel_rfl) (fun _ _ _ h => h) (Or.inr ⟨by rfl, rfl⟩) (by assumption) ?_
    try simp only [Act.put, List.setIfInBounds_toArray, List.set_cons_zero, List.set_cons_succ]
    refine wpAnyH_take (i := 9) (oi := { dst := some 47, op := Op.move (Operand.tmp 3), type := 3, pos := "law.go:181", after := #[{ on := 6, ground := Ground.guard }], guard := some (6, true) }) (v := undef) rfl (by kernel_rfl) (by kernel_rfl) (by kernel_rfl) (fun _ _ _ h => h) (Or.inr ⟨by rfl, rfl⟩) (by assumption) ?_
    try simp only [Act.put, List.setIfInBounds_toArray, List.set_cons_zero, List.set_cons_succ]
    refine wpAnyH_take (i := 10) (oi := { dst := some 48, op := Op.binOp BinOp.eql 3 (Operand.tmp 46) (Operand.tmp 47) 3, type := 4, pos := "law.go:181", after := #[{ on := 8, ground := Ground.data }, { on := 9, ground := Ground.data }, { on := 6, ground := Ground.guard }], guard := some (6, true) }) (v := undef) rfl (by kernel_rfl) (by kernel_rfl) (by kernel_rfl) (fun _ _ _ h => h) (Or.inr ⟨by rfl, rfl⟩) (by assumption) ?_
    try simp only [Act.put, List.setIfInBounds_toArray, List.set_cons_zero, List.set_cons_succ]
    refine wpAnyH_take (i := 11) (oi := { dst := some 49, op := Op.pick (Operand.tmp 44) (Operand.tmp 48) (Operand.const (Value.bool false)), type := 4, pos := "law.go:181", after := #[{ on := 6, ground := Ground.data }, { on := 10, ground := Ground.data }], guard := none }) (v := ?_) rfl (by kernel_rfl) (by kernel_rfl) (by kernel_rfl) (fun _ _ _ h => h) (Or.inl ⟨by rfl, ?_⟩) (by assumption) ?_
    rotate_left
    · (intro w_ hS_; (try dsimp only at hS_); go_simp; try with_reducible rfl)
    try simp only [Act.put, List.setIfInBounds_toArray, List.set_cons_zero, List.set_cons_succ]
    refine wpAnyH_take (i := 12) (oi := { dst := some 13, op := Op.assign (Operand.tmp 49), type := 4, pos := "law.go:181", after := #[{ on := 11, ground := Ground.data }, { on := 6, ground := Ground.chain }, { on := 0, ground := Ground.phase }, { on := 1, ground := Ground.phase }, { on := 2, ground := Ground.phase }, { on := 3, ground := Ground.phase }, { on := 4, ground := Ground.phase }, { on := 5, ground := Ground.phase }, { on := 6, ground := Ground.phase }, { on := 7, ground := Ground.phase }, { on := 8, ground := Ground.phase }, { on := 9, ground := Ground.phase }, { on := 10, ground := Ground.phase }, { on := 11, ground := Ground.phase }], guard := none }) (v := ?_) rfl (by kernel_rfl) (by kernel_rfl) (by kernel_rfl) (fun _ _ _ h => h) (Or.inl ⟨by rfl, ?_⟩) (by assumption) ?_
    rotate_left
    · (intro w_ hS_; (try dsimp only at hS_); go_simp; try with_reducible rfl)
    try simp only [Act.put, List.setIfInBounds_toArray, List.set_cons_zero, List.set_cons_succ]
    refine wpAnyH_done (by kernel_rfl) ?_ _
    (try dsimp only at hHeld)
    go_split_ands
    go_wp2_with fail
    refine (HA.out _ (by go_simp) (by go_simp) (by go_simp) (by go_simp)).mono ?_
    rintro e v4 ⟨rfl, ⟨V_4, V_4'⟩, ⟨L_4, L_4'⟩, hA4⟩
    obtain ⟨O_4, O_4'⟩ : Row v4 ob csO := hA4.row ⟨by go_simp, by go_simp⟩ (by omega) (by omega)
    obtain ⟨X_4, X_4'⟩ : Row v4 v2.heap.size #[.int .i64 id, .int .i64 pr, .int .i64 gr, .bool is] := hA4.row ⟨by go_simp, by go_simp⟩ (by omega) (by omega)
    have hB_4 : Below w.heap.size w v4 := hA4.below (by go_simp) (by first | omega | (go_simp; done) | (go_simp; omega)) (by first | omega | (go_simp; done) | (go_simp; omega)) (by first | (go_simp; done) | (go_simp; omega) | exact Below.size (by assumption))
    clear  hA4
    have hz_4 : w.heap.size ≤ v4.heap.size := hB_4.size
    have hl_V_4 := isRow.lt V_4
    have ne_V_4_0 : ¬ gv = v4.heap.size := by omega
    have en_V_4_0 : ¬ v4.heap.size = gv := by omega
    have ne_V_4_1 : ¬ gv = v4.heap.size + 1 := by omega
    have en_V_4_1 : ¬ v4.heap.size + 1 = gv := by omega
    have hl_L_4 := isRow.lt L_4
    have ne_L_4_0 : ¬ lv = v4.heap.size := by omega
    have en_L_4_0 : ¬ v4.heap.size = lv := by omega
    have ne_L_4_1 : ¬ lv = v4.heap.size + 1 := by omega
    have en_L_4_1 : ¬ v4.heap.size + 1 = lv := by omega
    have hl_O_4 := isRow.lt O_4
    have ne_O_4_0 : ¬ ob = v4.heap.size := by omega
    have en_O_4_0 : ¬ v4.heap.size = ob := by omega
    have ne_O_4_1 : ¬ ob = v4.heap.size + 1 := by omega
    have en_O_4_1 : ¬ v4.heap.size + 1 = ob := by omega
    have hl_X_4 := isRow.lt X_4
    have ne_X_4_0 : ¬ v2.heap.size = v4.heap.size := by omega
    have en_X_4_0 : ¬ v4.heap.size = v2.heap.size := by omega
    have ne_X_4_1 : ¬ v2.heap.size = v4.heap.size + 1 := by omega
    have en_X_4_1 : ¬ v4.heap.size + 1 = v2.heap.size := by omega
    go_wp2_with fail
    refine (same_c h16 (by go_simp) (by go_simp) hpO hcO (by go_simp) (by go_simp) (Nat.le_refl _)).mono ?_
    rintro e v5 ⟨rfl, hb5⟩
    obtain ⟨V_5, V_5'⟩ : Row v5 gv #[.int .i64 m, .int .i64 p0, .int .i64 p1, .bool o0, .bool o1, .bool sp, .int .u32 a2, .int .u32 b2, .slice (some ⟨lv, 0, none⟩) ys.length ys.length, .int .i64 lost] := Row.step (by go_simp) (by go_simp) hb5
    obtain ⟨L_5, L_5'⟩ : Row v5 lv (FA ys) := Row.step (by go_simp) (by go_simp) hb5
    obtain ⟨O_5, O_5'⟩ : Row v5 ob csO := Row.step (by go_simp) (by go_simp) hb5
    obtain ⟨X_5, X_5'⟩ : Row v5 v2.heap.size #[.int .i64 id, .int .i64 pr, .int .i64 gr, .bool is] := Row.step (by go_simp) (by go_simp) hb5
    have hB_5 : Below w.heap.size w v5 := bk (by go_simp) (by first | (go_simp; done) | (go_simp; omega) | exact Below.size (by assumption)) hb5
    clear V_4 V_4' L_4 L_4' O_4 O_4' X_4 X_4' hB_4 hb5
    have hz_5 : w.heap.size ≤ v5.heap.size := hB_5.size
    have hl_V_5 := isRow.lt V_5
    have ne_V_5_0 : ¬ gv = v5.heap.size := by omega
    have en_V_5_0 : ¬ v5.heap.size = gv := by omega
    have ne_V_5_1 : ¬ gv = v5.heap.size + 1 := by omega
    have en_V_5_1 : ¬ v5.heap.size + 1 = gv := by omega
    have hl_L_5 := isRow.lt L_5
    have ne_L_5_0 : ¬ lv = v5.heap.size := by omega
    have en_L_5_0 : ¬ v5.heap.size = lv := by omega
    have ne_L_5_1 : ¬ lv = v5.heap.size + 1 := by omega
    have en_L_5_1 : ¬ v5.heap.size + 1 = lv := by omega
    have hl_O_5 := isRow.lt O_5
    have ne_O_5_0 : ¬ ob = v5.heap.size := by omega
    have en_O_5_0 : ¬ v5.heap.size = ob := by omega
    have ne_O_5_1 : ¬ ob = v5.heap.size + 1 := by omega
    have en_O_5_1 : ¬ v5.heap.size + 1 = ob := by omega
    have hl_X_5 := isRow.lt X_5
    have ne_X_5_0 : ¬ v2.heap.size = v5.heap.size := by omega
    have en_X_5_0 : ¬ v5.heap.size = v2.heap.size := by omega
    have ne_X_5_1 : ¬ v2.heap.size = v5.heap.size + 1 := by omega
    have en_X_5_1 : ¬ v5.heap.size + 1 = v2.heap.size := by omega
    go_wp2
    go_ret
    exact ⟨rfl, by go_simp⟩
  | true =>
    by_cases hgr : (best ys).gr = gp
    · have hT : ackT m p0 p1 o0 o1 a b ys gp = true := by unfold ackT takeB; rw [hm, hgr, beq_self_eq_true]; rfl
      obtain ⟨k, hf, hk, q0, qb⟩ := best_at hG.uq (ackT_is m p0 p1 o0 o1 a b ys gp hT)
      rw [hf] at HF
      have hk0 : (0 : Int) ≤ (k : Int) := by omega
      have hk1 : (k : Int) < (ys.length : Int) := by omega
      by_cases hid : 8192 ≤ (best ys).id
      · skip
        obtain ⟨a2, b2, hA⟩ : ∃ a2 b2 : Int, ∀ W, isRow W gv → rowAt W gv = #[.int .i64 m, .int .i64 p0, .int .i64 p1, .bool o0, .bool o1, .bool sp, .int .u32 a, .int .u32 b, .slice (some ⟨lv, 0, none⟩) ys.length ys.length, .int .i64 lost] → isRow W lv → rowAt W lv = FA ys → Calls Try.prog 17 #[.pointer (some ⟨gv, 0, none⟩), .int .i64 gp] W fun e w' => e = .returned (.int .i64 (best ys).id) ∧ Row w' gv #[.int .i64 m, .int .i64 p0, .int .i64 p1, .bool o0, .bool o1, .bool sp, .int .u32 a2, .int .u32 b2, .slice (some ⟨lv, 0, none⟩) ys.length ys.length, .int .i64 lost] ∧ Row w' lv (FA (setSt ys k 0)) ∧ Aside2 gv lv W w' := ⟨_, _, fun W q1 q2 q3 q4 => by
          have q := ack_c gv lv m p0 p1 o0 o1 sp a b ys h16 lost gp n12 W q1 q2 q3 q4
          unfold ackId ackXs at q
          rw [if_pos hT, if_pos hT, hf, Int.toNat_natCast, if_pos hid] at q
          exact q⟩
        have HA := Lib.hid hA
        clear hA
        generalize hbe : best ys = bs at *
        obtain ⟨id, pr, gr, is⟩ := bs
        dsimp only at HB HM HA HF hid hgr hm hf
        rw [hm] at HM
        subst hgr
        clear hT hbe hm qb
        go_wp2_with (at_builtin; refine Kd.R_append_rows k54 (Rr := k54.K v0) (w0 := v0) v0.heap.size rfl _ _ 22 54 (.agg (enc z54)) 56 rfl Try.underlying22 infoL5 rfl (by decide) (by decide) _ ([] : List S54) ys (some ⟨lv, 0, none⟩) ys.length ys.length (fun _ => True) (fun _ => False) rfl rfl (Kd.R_nil _ _ _ _ _) (fa_kd L0 L0' (by omega)) (fun p cs hp => by rw [k54_open hp]; exact k54_mkM _ _ _ _) (fun _ h => h.elim) (fun _ _ => trivial) (Below.refl _ _) (by simp) (by simp; omega) ?_; intro x_ v1 hR_ hb1 _ _; refine stop_in ?_)
        refine stop_out ?_
        rw [List.nil_append] at hR_
        obtain ⟨ob, cO, csO, rfl, hcO, hob, ⟨O_1, O_1'⟩, hpO⟩ := copied hR_ h0
        clear hR_
        have ne_V_O : ¬ gv = ob := by have := isRow.lt V0; omega
        have en_V_O : ¬ ob = gv := by omega
        have ne_L_O : ¬ lv = ob := by have := isRow.lt L0; omega
        have en_L_O : ¬ ob = lv := by omega
        have hwob : w.heap.size ≤ ob := Nat.le_trans hB0.size hob
        obtain ⟨V_1, V_1'⟩ : Row v1 gv #[.int .i64 m, .int .i64 p0, .int .i64 p1, .bool o0, .bool o1, .bool sp, .int .u32 a, .int .u32 b, .slice (some ⟨lv, 0, none⟩) ys.length ys.length, .int .i64 lost] := Row.step (by go_simp) (by go_simp) hb1
        obtain ⟨L_1, L_1'⟩ : Row v1 lv (FA ys) := Row.step (by go_simp) (by go_simp) hb1
        have hB_1 : Below w.heap.size w v1 := bk (by go_simp) (by first | (go_simp; done) | (go_simp; omega) | exact Below.size (by assumption)) hb1
        clear V0 V0' L0 L0' hB0 hb1
        have hz_1 : w.heap.size ≤ v1.heap.size := hB_1.size
        have hl_V_1 := isRow.lt V_1
        have ne_V_1_0 : ¬ gv = v1.heap.size := by omega
        have en_V_1_0 : ¬ v1.heap.size = gv := by omega
        have ne_V_1_1 : ¬ gv = v1.heap.size + 1 := by omega
        have en_V_1_1 : ¬ v1.heap.size + 1 = gv := by omega
        have hl_L_1 := isRow.lt L_1
        have ne_L_1_0 : ¬ lv = v1.heap.size := by omega
        have en_L_1_0 : ¬ v1.heap.size = lv := by omega
        have ne_L_1_1 : ¬ lv = v1.heap.size + 1 := by omega
        have en_L_1_1 : ¬ v1.heap.size + 1 = lv := by omega
        have hl_O_1 := isRow.lt O_1
        have ne_O_1_0 : ¬ ob = v1.heap.size := by omega
        have en_O_1_0 : ¬ v1.heap.size = ob := by omega
        have ne_O_1_1 : ¬ ob = v1.heap.size + 1 := by omega
        have en_O_1_1 : ¬ v1.heap.size + 1 = ob := by omega
        go_wp2_with fail
        refine (HB.out _ (by go_simp) (by go_simp) (by go_simp) (by go_simp)).mono ?_
        rintro e v2 ⟨rfl, hb2⟩
        obtain ⟨V_2, V_2'⟩ : Row v2 gv #[.int .i64 m, .int .i64 p0, .int .i64 p1, .bool o0, .bool o1, .bool sp, .int .u32 a, .int .u32 b, .slice (some ⟨lv, 0, none⟩) ys.length ys.length, .int .i64 lost] := Row.step (by go_simp) (by go_simp) hb2
        obtain ⟨L_2, L_2'⟩ : Row v2 lv (FA ys) := Row.step (by go_simp) (by go_simp) hb2
        obtain ⟨O_2, O_2'⟩ : Row v2 ob csO := Row.step (by go_simp) (by go_simp) hb2
        have hB_2 : Below w.heap.size w v2 := bk (by go_simp) (by first | (go_simp; done) | (go_simp; omega) | exact Below.size (by assumption)) hb2
        clear V_1 V_1' L_1 L_1' O_1 O_1' hB_1 hb2
        have hz_2 : w.heap.size ≤ v2.heap.size := hB_2.size
        have hl_V_2 := isRow.lt V_2
        have ne_V_2_0 : ¬ gv = v2.heap.size := by omega
        have en_V_2_0 : ¬ v2.heap.size = gv := by omega
        have ne_V_2_1 : ¬ gv = v2.heap.size + 1 := by omega
        have en_V_2_1 : ¬ v2.heap.size + 1 = gv := by omega
        have hl_L_2 := isRow.lt L_2
        have ne_L_2_0 : ¬ lv = v2.heap.size := by omega
        have en_L_2_0 : ¬ v2.heap.size = lv := by omega
        have ne_L_2_1 : ¬ lv = v2.heap.size + 1 := by omega
        have en_L_2_1 : ¬ v2.heap.size + 1 = lv := by omega
        have hl_O_2 := isRow.lt O_2
        have ne_O_2_0 : ¬ ob = v2.heap.size := by omega
        have en_O_2_0 : ¬ v2.heap.size = ob := by omega
        have ne_O_2_1 : ¬ ob = v2.heap.size + 1 := by omega
        have en_O_2_1 : ¬ v2.heap.size + 1 = ob := by omega
        go_wp2_with fail
        have ne_V_X : ¬ gv = v2.heap.size := by omega
        have en_V_X : ¬ v2.heap.size = gv := by omega
        have ne_L_X : ¬ lv = v2.heap.size := by omega
        have en_L_X : ¬ v2.heap.size = lv := by omega
        have ne_O_X : ¬ ob = v2.heap.size := by omega
        have en_O_X : ¬ v2.heap.size = ob := by omega
        refine wp_named (fun W_ => (isRow W_ gv ∧ rowAt W_ gv = #[.int .i64 m, .int .i64 p0, .int .i64 p1, .bool o0, .bool o1, .bool sp, .int .u32 a, .int .u32 b, .slice (some ⟨lv, 0, none⟩) ys.length ys.length, .int .i64 lost]) ∧ (isRow W_ lv ∧ rowAt W_ lv = (FA ys)) ∧ (isRow W_ ob ∧ rowAt W_ ob = csO) ∧ (isRow W_ v2.heap.size ∧ rowAt W_ v2.heap.size = #[.int .i64 id, .int .i64 pr, .int .i64 gr, .bool is]) ∧ Below w.heap.size w W_) (by refine ⟨⟨by go_simp, by go_simp⟩, ⟨by go_simp, by go_simp⟩, ⟨by go_simp, by go_simp⟩, ⟨by go_simp, by go_simp⟩, by go_simp⟩) ?_
        rintro v3 ⟨⟨V_3, V_3'⟩, ⟨L_3, L_3'⟩, ⟨O_3, O_3'⟩, ⟨X_3, X_3'⟩, hB_3⟩
        clear V_2 V_2' L_2 L_2' O_2 O_2' hB_2
        have hz_3 : w.heap.size ≤ v3.heap.size := hB_3.size
        have hl_V_3 := isRow.lt V_3
        have ne_V_3_0 : ¬ gv = v3.heap.size := by omega
        have en_V_3_0 : ¬ v3.heap.size = gv := by omega
        have ne_V_3_1 : ¬ gv = v3.heap.size + 1 := by omega
        have en_V_3_1 : ¬ v3.heap.size + 1 = gv := by omega
        have hl_L_3 := isRow.lt L_3
        have ne_L_3_0 : ¬ lv = v3.heap.size := by omega
        have en_L_3_0 : ¬ v3.heap.size = lv := by omega
        have ne_L_3_1 : ¬ lv = v3.heap.size + 1 := by omega
        have en_L_3_1 : ¬ v3.heap.size + 1 = lv := by omega
        have hl_O_3 := isRow.lt O_3
        have ne_O_3_0 : ¬ ob = v3.heap.size := by omega
        have en_O_3_0 : ¬ v3.heap.size = ob := by omega
        have ne_O_3_1 : ¬ ob = v3.heap.size + 1 := by omega
        have en_O_3_1 : ¬ v3.heap.size + 1 = ob := by omega
        have hl_X_3 := isRow.lt X_3
        have ne_X_3_0 : ¬ v2.heap.size = v3.heap.size := by omega
        have en_X_3_0 : ¬ v3.heap.size = v2.heap.size := by omega
        have ne_X_3_1 : ¬ v2.heap.size = v3.heap.size + 1 := by omega
        have en_X_3_1 : ¬ v3.heap.size + 1 = v2.heap.size := by omega
        refine wp_region_held_drew (S := fun w' => isRow w' gv ∧ rowAt w' gv = #[.int .i64 m, .int .i64 p0, .int .i64 p1, .bool o0, .bool o1, .bool sp, .int .u32 a, .int .u32 b, .slice (some ⟨lv, 0, none⟩) ys.length ys.length, .int .i64 lost] ∧ isRow w' lv ∧ rowAt w' lv = (FA ys) ∧ isRow w' ob ∧ rowAt w' ob = csO ∧ isRow w' v2.heap.size ∧ rowAt w' v2.heap.size = #[.int .i64 id, .int .i64 pr, .int .i64 gr, .bool is] ∧ Below w.heap.size w w') (by kernel_rfl) ⟨V_3, V_3', L_3, L_3', O_3, O_3', X_3, X_3', below_drew0 hB_3⟩ (fun hHeld => ?_)
        refine wpAnyH_take (i := 0) (oi := { dst := some 38, op := Op.move (Operand.tmp 10), type := 24, pos := "law.go:181", after := #[], guard := none }) (v := ?_) rfl (by kernel_rfl) (by kernel_rfl) (by kernel_rfl) (fun _ _ _ h => h) (Or.inl ⟨by rfl, ?_⟩) (by assumption) ?_
        rotate_left
        · (intro w_ hS_; (try dsimp only at hS_); go_simp; try with_reducible rfl)
        try simp only [Act.put, List.setIfInBounds_toArray, List.set_cons_zero, List.set_cons_succ]
        refine wpAnyH_take (i := 1) (oi := { dst := some 39, op := Op.nilCheck (Operand.tmp 38), type := 0, pos := "law.go:181", after := #[{ on := 0, ground := Ground.data }], guard := none }) (v := ?_) rfl (by kernel_rfl) (by kernel_rfl) (by kernel_rfl) (fun _ _ _ h => h) (Or.inl ⟨by rfl, ?_⟩) (by assumption) ?_
        rotate_left
        · (intro w_ hS_; (try dsimp only at hS_); go_simp; try with_reducible rfl)
        try simp only [Act.put, List.setIfInBounds_toArray, List.set_cons_zero, List.set_cons_succ]
        refine wpAnyH_take (i := 2) (oi := { dst := some 40, op := Op.fieldAddr 37 (Operand.tmp 39) 0, type := 0, pos := "law.go:181", after := #[{ on := 1, ground := Ground.data }], guard := none }) (v := ?_) rfl (by kernel_rfl) (by kernel_rfl) (by kernel_rfl) (fun _ _ _ h => h) (Or.inl ⟨by rfl, ?_⟩) (by assumption) ?_
        rotate_left
        · (intro w_ hS_; (try dsimp only at hS_); go_simp; try with_reducible rfl)
        try simp only [Act.put, List.setIfInBounds_toArray, List.set_cons_zero, List.set_cons_succ]
        refine wpAnyH_take (i := 3) (oi := { dst := some 41, op := Op.load 35 (Operand.tmp 40), type := 35, pos := "law.go:181", after := #[{ on := 2, ground := Ground.data }], guard := none }) (v := ?_) rfl (by kernel_rfl) (by kernel_rfl) (by kernel_rfl) (fun _ _ _ h => h) (Or.inl ⟨by rfl, ?_⟩) (by assumption) ?_
        rotate_left
        · (intro w_ hS_; (try dsimp only at hS_); go_simp; try with_reducible rfl)
        try simp only [Act.put, List.setIfInBounds_toArray, List.set_cons_zero, List.set_cons_succ]
        refine wpAnyH_take (i := 4) (oi := { dst := some 42, op := Op.load 47 (Operand.tmp 12), type := 47, pos := "law.go:181", after := #[], guard := none }) (v := ?_) rfl (by kernel_rfl) (by kernel_rfl) (by kernel_rfl) (fun _ _ _ h => h) (Or.inl ⟨by rfl, ?_⟩) (by assumption) ?_
        rotate_left
        · (intro w_ hS_; (try dsimp only at hS_); go_simp; try with_reducible rfl)
        try simp only [Act.put, List.setIfInBounds_toArray, List.set_cons_zero, List.set_cons_succ]
        refine wpAnyH_ready (rs := [5]) (by kernel_rfl) (by simp) ?_
        refine AllReadyH.cons (o := { dst := some 43, op := Op.call { callee := Callee.value (Operand.func 20), args := #[Operand.tmp 41, Operand.tmp 42], argTypes := #[35, 47] }, type := 4, pos := "law.go:181", after := #[{ on := 3, ground := Ground.data }, { on := 4, ground := Ground.data }], guard := none }) rfl (fun K hK => ?_) AllReadyH.nil
        go_simp
        (have hq_ := hHeld; (try dsimp only at hq_); go_split_ands)
        refine (HM.out _).mono ?_
        rintro e w4 ⟨rfl, hb⟩
        refine hK.out _ _ ?_ (fun hHeld => ?_)
        · (go_split_ands; exact ⟨rk1 (by assumption) hb, rk2 (by assumption) (by assumption) hb, rk1 (by assumption) hb, rk2 (by assumption) (by assumption) hb, rk1 (by assumption) hb, rk2 (by assumption) (by assumption) hb, rk1 (by assumption) hb, rk2 (by assumption) (by assumption) hb, bk (by assumption) (Below.size (by assumption)) hb⟩)
        clear hK K
        try simp only [Act.put, List.setIfInBounds_toArray, List.set_cons_zero, List.set_cons_succ]
        refine wpAnyH_take (i := 6) (oi := { dst := some 44, op := Op.move (Operand.tmp 43), type := 4, pos := "law.go:181", after := #[{ on := 5, ground := Ground.data }, { on := 5, ground := Ground.chain }], guard := none }) (v := ?_) rfl (by kernel_rfl) (by kernel_rfl) (by kernel_rfl) (fun _ _ _ h => h) (Or.inl ⟨by rfl, ?_⟩) (by assumption) ?_
        rotate_left
        · (intro w_ hS_; (try dsimp only at hS_); go_simp; try with_reducible rfl)
        try simp only [Act.put, List.setIfInBounds_toArray, List.set_cons_zero, List.set_cons_succ]
        refine wpAnyH_take (i := 7) (oi := { dst := some 45, op := Op.fieldAddr 47 (Operand.tmp 12) 2, type := 0, pos := "law.go:181", after := #[{ on := 6, ground := Ground.guard }], guard := some (6, true) }) (v := ?_) rfl (by kernel_rfl) (by kernel_rfl) (by kernel_rfl) (fun _ _ _ h => h) (Or.inl ⟨by rfl, ?_⟩) (by assumption) ?_
        rotate_left
        · (intro w_ hS_; (try dsimp only at hS_); go_simp; try with_reducible rfl)
        try simp only [Act.put, List.setIfInBounds_toArray, List.set_cons_zero, List.set_cons_succ]
        refine wpAnyH_take (i := 8) (oi := { dst := some 46, op := Op.load 3 (Operand.tmp 45), type := 3, pos := "law.go:181", after := #[{ on := 7, ground := Ground.data }, { on := 6, ground := Ground.guard }], guard := some (6, true) }) (v := ?_) rfl (by kernel_rfl) (by kernel_rfl) (by kernel_rfl) (fun _ _ _ h => h) (Or.inl ⟨by rfl, ?_⟩) (by assumption) ?_
        rotate_left
        · (intro w_ hS_; (try dsimp only at hS_); go_simp; try with_reducible rfl)
        try simp only [Act.put, List.setIfInBounds_toArray, List.set_cons_zero, List.set_cons_succ]
        refine wpAnyH_take (i := 9) (oi := { dst := some 47, op := Op.move (Operand.tmp 3), type := 3, pos := "law.go:181", after := #[{ on := 6, ground := Ground.guard }], guard := some (6, true) }) (v := ?_) rfl (by kernel_rfl) (by kernel_rfl) (by kernel_rfl) (fun _ _ _ h => h) (Or.inl ⟨by rfl, ?_⟩) (by assumption) ?_
        rotate_left
        · (intro w_ hS_; (try dsimp only at hS_); go_simp; try with_reducible rfl)
        try simp only [Act.put, List.setIfInBounds_toArray, List.set_cons_zero, List.set_cons_succ]
        refine wpAnyH_take (i := 10) (oi := { dst := some 48, op := Op.binOp BinOp.eql 3 (Operand.tmp 46) (Operand.tmp 47) 3, type := 4, pos := "law.go:181", after := #[{ on := 8, ground := Ground.data }, { on := 9, ground := Ground.data }, { on := 6, ground := Ground.guard }], guard := some (6, true) }) (v := ?_) rfl (by kernel_rfl) (by kernel_rfl) (by kernel_rfl) (fun _ _ _ h => h) (Or.inl ⟨by rfl, ?_⟩) (by assumption) ?_
        rotate_left
        · (intro w_ hS_; (try dsimp only at hS_); go_simp; try with_reducible rfl)
        try simp only [Act.put, List.setIfInBounds_toArray, List.set_cons_zero, List.set_cons_succ]
        refine wpAnyH_take (i := 11) (oi := { dst := some 49, op := Op.pick (Operand.tmp 44) (Operand.tmp 48) (Operand.const (Value.bool false)), type := 4, pos := "law.go:181", after := #[{ on := 6, ground := Ground.data }, { on := 10, ground := Ground.data }], guard := none }) (v := ?_) rfl (by kernel_rfl) (by kernel_rfl) (by kernel_rfl) (fun _ _ _ h => h) (Or.inl ⟨by rfl, ?_⟩) (by assumption) ?_
        rotate_left
        · (intro w_ hS_; (try dsimp only at hS_); go_simp; try with_reducible rfl)
        try simp only [Act.put, List.setIfInBounds_toArray, List.set_cons_zero, List.set_cons_succ]
        refine wpAnyH_take (i := 12) (oi := { dst := some 13, op := Op.assign (Operand.tmp 49), type := 4, pos := "law.go:181", after := #[{ on := 11, ground := Ground.data }, { on := 6, ground := Ground.chain }, { on := 0, ground := Ground.phase }, { on := 1, ground := Ground.phase }, { on := 2, ground := Ground.phase }, { on := 3, ground := Ground.phase }, { on := 4, ground := Ground.phase }, { on := 5, ground := Ground.phase }, { on := 6, ground := Ground.phase }, { on := 7, ground := Ground.phase }, { on := 8, ground := Ground.phase }, { on := 9, ground := Ground.phase }, { on := 10, ground := Ground.phase }, { on := 11, ground := Ground.phase }], guard := none }) (v := ?_) rfl (by kernel_rfl) (by kernel_rfl) (by kernel_rfl) (fun _ _ _ h => h) (Or.inl ⟨by rfl, ?_⟩) (by assumption) ?_
        rotate_left
        · (intro w_ hS_; (try dsimp only at hS_); go_simp; try with_reducible rfl)
        try simp only [Act.put, List.setIfInBounds_toArray, List.set_cons_zero, List.set_cons_succ]
        refine wpAnyH_done (by kernel_rfl) ?_ _
        (try dsimp only at hHeld)
        go_split_ands
        go_wp2_with fail
        refine (HA.out _ (by go_simp) (by go_simp) (by go_simp) (by go_simp)).mono ?_
        rintro e v4 ⟨rfl, ⟨V_4, V_4'⟩, ⟨L_4, L_4'⟩, hA4⟩
        obtain ⟨O_4, O_4'⟩ : Row v4 ob csO := hA4.row ⟨by go_simp, by go_simp⟩ (by omega) (by omega)
        obtain ⟨X_4, X_4'⟩ : Row v4 v2.heap.size #[.int .i64 id, .int .i64 pr, .int .i64 gr, .bool is] := hA4.row ⟨by go_simp, by go_simp⟩ (by omega) (by omega)
        have hB_4 : Below w.heap.size w v4 := hA4.below (by go_simp) (by first | omega | (go_simp; done) | (go_simp; omega)) (by first | omega | (go_simp; done) | (go_simp; omega)) (by first | (go_simp; done) | (go_simp; omega) | exact Below.size (by assumption))
        clear  hA4
        have hz_4 : w.heap.size ≤ v4.heap.size := hB_4.size
        have hl_V_4 := isRow.lt V_4
        have ne_V_4_0 : ¬ gv = v4.heap.size := by omega
        have en_V_4_0 : ¬ v4.heap.size = gv := by omega
        have ne_V_4_1 : ¬ gv = v4.heap.size + 1 := by omega
        have en_V_4_1 : ¬ v4.heap.size + 1 = gv := by omega
        have hl_L_4 := isRow.lt L_4
        have ne_L_4_0 : ¬ lv = v4.heap.size := by omega
        have en_L_4_0 : ¬ v4.heap.size = lv := by omega
        have ne_L_4_1 : ¬ lv = v4.heap.size + 1 := by omega
        have en_L_4_1 : ¬ v4.heap.size + 1 = lv := by omega
        have hl_O_4 := isRow.lt O_4
        have ne_O_4_0 : ¬ ob = v4.heap.size := by omega
        have en_O_4_0 : ¬ v4.heap.size = ob := by omega
        have ne_O_4_1 : ¬ ob = v4.heap.size + 1 := by omega
        have en_O_4_1 : ¬ v4.heap.size + 1 = ob := by omega
        have hl_X_4 := isRow.lt X_4
        have ne_X_4_0 : ¬ v2.heap.size = v4.heap.size := by omega
        have en_X_4_0 : ¬ v4.heap.size = v2.heap.size := by omega
        have ne_X_4_1 : ¬ v2.heap.size = v4.heap.size + 1 := by omega
        have en_X_4_1 : ¬ v4.heap.size + 1 = v2.heap.size := by omega
        go_wp2_with fail
        refine (HF.out _ _ _ _ (by go_simp) (by go_simp) hpO hcO).mono ?_
        rintro e v5 ⟨rfl, hb5⟩
        obtain ⟨V_5, V_5'⟩ : Row v5 gv #[.int .i64 m, .int .i64 p0, .int .i64 p1, .bool o0, .bool o1, .bool sp, .int .u32 a2, .int .u32 b2, .slice (some ⟨lv, 0, none⟩) ys.length ys.length, .int .i64 lost] := Row.step (by go_simp) (by go_simp) hb5
        obtain ⟨L_5, L_5'⟩ : Row v5 lv (FA (setSt ys k 0)) := Row.step (by go_simp) (by go_simp) hb5
        obtain ⟨O_5, O_5'⟩ : Row v5 ob csO := Row.step (by go_simp) (by go_simp) hb5
        obtain ⟨X_5, X_5'⟩ : Row v5 v2.heap.size #[.int .i64 id, .int .i64 pr, .int .i64 gr, .bool is] := Row.step (by go_simp) (by go_simp) hb5
        have hB_5 : Below w.heap.size w v5 := bk (by go_simp) (by first | (go_simp; done) | (go_simp; omega) | exact Below.size (by assumption)) hb5
        clear V_4 V_4' L_4 L_4' O_4 O_4' X_4 X_4' hB_4 hb5
        have hz_5 : w.heap.size ≤ v5.heap.size := hB_5.size
        have hl_V_5 := isRow.lt V_5
        have ne_V_5_0 : ¬ gv = v5.heap.size := by omega
        have en_V_5_0 : ¬ v5.heap.size = gv := by omega
        have ne_V_5_1 : ¬ gv = v5.heap.size + 1 := by omega
        have en_V_5_1 : ¬ v5.heap.size + 1 = gv := by omega
        have hl_L_5 := isRow.lt L_5
        have ne_L_5_0 : ¬ lv = v5.heap.size := by omega
        have en_L_5_0 : ¬ v5.heap.size = lv := by omega
        have ne_L_5_1 : ¬ lv = v5.heap.size + 1 := by omega
        have en_L_5_1 : ¬ v5.heap.size + 1 = lv := by omega
        have hl_O_5 := isRow.lt O_5
        have ne_O_5_0 : ¬ ob = v5.heap.size := by omega
        have en_O_5_0 : ¬ v5.heap.size = ob := by omega
        have ne_O_5_1 : ¬ ob = v5.heap.size + 1 := by omega
        have en_O_5_1 : ¬ v5.heap.size + 1 = ob := by omega
        have hl_X_5 := isRow.lt X_5
        have ne_X_5_0 : ¬ v2.heap.size = v5.heap.size := by omega
        have en_X_5_0 : ¬ v5.heap.size = v2.heap.size := by omega
        have ne_X_5_1 : ¬ v2.heap.size = v5.heap.size + 1 := by omega
        have en_X_5_1 : ¬ v5.heap.size + 1 = v2.heap.size := by omega
        have cc0 := pre_gets hpO k hk
        have cc1 := (FA_gets (setSt ys k 0) k (by rw [setSt_length]; exact hk)).1
        rw [rd_setSt ys k 0 k hk, if_pos rfl] at cc1
        rw [q0] at cc0
        have hps := pre_set hpO k 0 hk
        go_wp2_with fail
        refine (same_n (setSt_length ys k 0) h16 (by go_simp) (by go_simp) hps hcO (by go_simp) (by go_simp) (Nat.le_refl _)).mono ?_
        rintro e v6 ⟨rfl, hb6⟩
        obtain ⟨V_6, V_6'⟩ : Row v6 gv #[.int .i64 m, .int .i64 p0, .int .i64 p1, .bool o0, .bool o1, .bool sp, .int .u32 a2, .int .u32 b2, .slice (some ⟨lv, 0, none⟩) ys.length ys.length, .int .i64 lost] := Row.step (by go_simp) (by go_simp) hb6
        obtain ⟨L_6, L_6'⟩ : Row v6 lv (FA (setSt ys k 0)) := Row.step (by go_simp) (by go_simp) hb6
        obtain ⟨O_6, O_6'⟩ : Row v6 ob (csO.setIfInBounds (k * 7) (.int .i64 0)) := Row.step (by go_simp) (by go_simp) hb6
        obtain ⟨X_6, X_6'⟩ : Row v6 v2.heap.size #[.int .i64 id, .int .i64 pr, .int .i64 gr, .bool is] := Row.step (by go_simp) (by go_simp) hb6
        have hB_6 : Below w.heap.size w v6 := bk (by go_simp) (by first | (go_simp; done) | (go_simp; omega) | exact Below.size (by assumption)) hb6
        clear V_5 V_5' L_5 L_5' O_5 O_5' X_5 X_5' hB_5 hb6
        have hz_6 : w.heap.size ≤ v6.heap.size := hB_6.size
        have hl_V_6 := isRow.lt V_6
        have ne_V_6_0 : ¬ gv = v6.heap.size := by omega
        have en_V_6_0 : ¬ v6.heap.size = gv := by omega
        have ne_V_6_1 : ¬ gv = v6.heap.size + 1 := by omega
        have en_V_6_1 : ¬ v6.heap.size + 1 = gv := by omega
        have hl_L_6 := isRow.lt L_6
        have ne_L_6_0 : ¬ lv = v6.heap.size := by omega
        have en_L_6_0 : ¬ v6.heap.size = lv := by omega
        have ne_L_6_1 : ¬ lv = v6.heap.size + 1 := by omega
        have en_L_6_1 : ¬ v6.heap.size + 1 = lv := by omega
        have hl_O_6 := isRow.lt O_6
        have ne_O_6_0 : ¬ ob = v6.heap.size := by omega
        have en_O_6_0 : ¬ v6.heap.size = ob := by omega
        have ne_O_6_1 : ¬ ob = v6.heap.size + 1 := by omega
        have en_O_6_1 : ¬ v6.heap.size + 1 = ob := by omega
        have hl_X_6 := isRow.lt X_6
        have ne_X_6_0 : ¬ v2.heap.size = v6.heap.size := by omega
        have en_X_6_0 : ¬ v6.heap.size = v2.heap.size := by omega
        have ne_X_6_1 : ¬ v2.heap.size = v6.heap.size + 1 := by omega
        have en_X_6_1 : ¬ v6.heap.size + 1 = v2.heap.size := by omega
        go_wp2
        go_ret
        exact ⟨rfl, by go_simp⟩
      · skip
        obtain ⟨a2, b2, hA⟩ : ∃ a2 b2 : Int, ∀ W, isRow W gv → rowAt W gv = #[.int .i64 m, .int .i64 p0, .int .i64 p1, .bool o0, .bool o1, .bool sp, .int .u32 a, .int .u32 b, .slice (some ⟨lv, 0, none⟩) ys.length ys.length, .int .i64 lost] → isRow W lv → rowAt W lv = FA ys → Calls Try.prog 17 #[.pointer (some ⟨gv, 0, none⟩), .int .i64 gp] W fun e w' => e = .returned (.int .i64 (best ys).id) ∧ Row w' gv #[.int .i64 m, .int .i64 p0, .int .i64 p1, .bool o0, .bool o1, .bool sp, .int .u32 a2, .int .u32 b2, .slice (some ⟨lv, 0, none⟩) ys.length ys.length, .int .i64 lost] ∧ Row w' lv (FA (setSt ys k 2)) ∧ Aside2 gv lv W w' := ⟨_, _, fun W q1 q2 q3 q4 => by
          have q := ack_c gv lv m p0 p1 o0 o1 sp a b ys h16 lost gp n12 W q1 q2 q3 q4
          unfold ackId ackXs at q
          rw [if_pos hT, if_pos hT, hf, Int.toNat_natCast, if_neg hid] at q
          exact q⟩
        have HA := Lib.hid hA
        clear hA
        generalize hbe : best ys = bs at *
        obtain ⟨id, pr, gr, is⟩ := bs
        dsimp only at HB HM HA HF hid hgr hm hf
        rw [hm] at HM
        subst hgr
        clear hT hbe hm qb
        go_wp2_with (at_builtin; refine Kd.R_append_rows k54 (Rr := k54.K v0) (w0 := v0) v0.heap.size rfl _ _ 22 54 (.agg (enc z54)) 56 rfl Try.underlying22 infoL5 rfl (by decide) (by decide) _ ([] : List S54) ys (some ⟨lv, 0, none⟩) ys.length ys.length (fun _ => True) (fun _ => False) rfl rfl (Kd.R_nil _ _ _ _ _) (fa_kd L0 L0' (by omega)) (fun p cs hp => by rw [k54_open hp]; exact k54_mkM _ _ _ _) (fun _ h => h.elim) (fun _ _ => trivial) (Below.refl _ _) (by simp) (by simp; omega) ?_; intro x_ v1 hR_ hb1 _ _; refine stop_in ?_)
        refine stop_out ?_
        rw [List.nil_append] at hR_
        obtain ⟨ob, cO, csO, rfl, hcO, hob, ⟨O_1, O_1'⟩, hpO⟩ := copied hR_ h0
        clear hR_
        have ne_V_O : ¬ gv = ob := by have := isRow.lt V0; omega
        have en_V_O : ¬ ob = gv := by omega
        have ne_L_O : ¬ lv = ob := by have := isRow.lt L0; omega
        have en_L_O : ¬ ob = lv := by omega
        have hwob : w.heap.size ≤ ob := Nat.le_trans hB0.size hob
        obtain ⟨V_1, V_1'⟩ : Row v1 gv #[.int .i64 m, .int .i64 p0, .int .i64 p1, .bool o0, .bool o1, .bool sp, .int .u32 a, .int .u32 b, .slice (some ⟨lv, 0, none⟩) ys.length ys.length, .int .i64 lost] := Row.step (by go_simp) (by go_simp) hb1
        obtain ⟨L_1, L_1'⟩ : Row v1 lv (FA ys) := Row.step (by go_simp) (by go_simp) hb1
        have hB_1 : Below w.heap.size w v1 := bk (by go_simp) (by first | (go_simp; done) | (go_simp; omega) | exact Below.size (by assumption)) hb1
        clear V0 V0' L0 L0' hB0 hb1
        have hz_1 : w.heap.size ≤ v1.heap.size := hB_1.size
        have hl_V_1 := isRow.lt V_1
        have ne_V_1_0 : ¬ gv = v1.heap.size := by omega
        have en_V_1_0 : ¬ v1.heap.size = gv := by omega
        have ne_V_1_1 : ¬ gv = v1.heap.size + 1 := by omega
        have en_V_1_1 : ¬ v1.heap.size + 1 = gv := by omega
        have hl_L_1 := isRow.lt L_1
        have ne_L_1_0 : ¬ lv = v1.heap.size := by omega
        have en_L_1_0 : ¬ v1.heap.size = lv := by omega
        have ne_L_1_1 : ¬ lv = v1.heap.size + 1 := by omega
        have en_L_1_1 : ¬ v1.heap.size + 1 = lv := by omega
        have hl_O_1 := isRow.lt O_1
        have ne_O_1_0 : ¬ ob = v1.heap.size := by omega
        have en_O_1_0 : ¬ v1.heap.size = ob := by omega
        have ne_O_1_1 : ¬ ob = v1.heap.size + 1 := by omega
        have en_O_1_1 : ¬ v1.heap.size + 1 = ob := by omega
        go_wp2_with fail
        refine (HB.out _ (by go_simp) (by go_simp) (by go_simp) (by go_simp)).mono ?_
        rintro e v2 ⟨rfl, hb2⟩
        obtain ⟨V_2, V_2'⟩ : Row v2 gv #[.int .i64 m, .int .i64 p0, .int .i64 p1, .bool o0, .bool o1, .bool sp, .int .u32 a, .int .u32 b, .slice (some ⟨lv, 0, none⟩) ys.length ys.length, .int .i64 lost] := Row.step (by go_simp) (by go_simp) hb2
        obtain ⟨L_2, L_2'⟩ : Row v2 lv (FA ys) := Row.step (by go_simp) (by go_simp) hb2
        obtain ⟨O_2, O_2'⟩ : Row v2 ob csO := Row.step (by go_simp) (by go_simp) hb2
        have hB_2 : Below w.heap.size w v2 := bk (by go_simp) (by first | (go_simp; done) | (go_simp; omega) | exact Below.size (by assumption)) hb2
        clear V_1 V_1' L_1 L_1' O_1 O_1' hB_1 hb2
        have hz_2 : w.heap.size ≤ v2.heap.size := hB_2.size
        have hl_V_2 := isRow.lt V_2
        have ne_V_2_0 : ¬ gv = v2.heap.size := by omega
        have en_V_2_0 : ¬ v2.heap.size = gv := by omega
        have ne_V_2_1 : ¬ gv = v2.heap.size + 1 := by omega
        have en_V_2_1 : ¬ v2.heap.size + 1 = gv := by omega
        have hl_L_2 := isRow.lt L_2
        have ne_L_2_0 : ¬ lv = v2.heap.size := by omega
        have en_L_2_0 : ¬ v2.heap.size = lv := by omega
        have ne_L_2_1 : ¬ lv = v2.heap.size + 1 := by omega
        have en_L_2_1 : ¬ v2.heap.size + 1 = lv := by omega
        have hl_O_2 := isRow.lt O_2
        have ne_O_2_0 : ¬ ob = v2.heap.size := by omega
        have en_O_2_0 : ¬ v2.heap.size = ob := by omega
        have ne_O_2_1 : ¬ ob = v2.heap.size + 1 := by omega
        have en_O_2_1 : ¬ v2.heap.size + 1 = ob := by omega
        go_wp2_with fail
        have ne_V_X : ¬ gv = v2.heap.size := by omega
        have en_V_X : ¬ v2.heap.size = gv := by omega
        have ne_L_X : ¬ lv = v2.heap.size := by omega
        have en_L_X : ¬ v2.heap.size = lv := by omega
        have ne_O_X : ¬ ob = v2.heap.size := by omega
        have en_O_X : ¬ v2.heap.size = ob := by omega
        refine wp_named (fun W_ => (isRow W_ gv ∧ rowAt W_ gv = #[.int .i64 m, .int .i64 p0, .int .i64 p1, .bool o0, .bool o1, .bool sp, .int .u32 a, .int .u32 b, .slice (some ⟨lv, 0, none⟩) ys.length ys.length, .int .i64 lost]) ∧ (isRow W_ lv ∧ rowAt W_ lv = (FA ys)) ∧ (isRow W_ ob ∧ rowAt W_ ob = csO) ∧ (isRow W_ v2.heap.size ∧ rowAt W_ v2.heap.size = #[.int .i64 id, .int .i64 pr, .int .i64 gr, .bool is]) ∧ Below w.heap.size w W_) (by refine ⟨⟨by go_simp, by go_simp⟩, ⟨by go_simp, by go_simp⟩, ⟨by go_simp, by go_simp⟩, ⟨by go_simp, by go_simp⟩, by go_simp⟩) ?_
        rintro v3 ⟨⟨V_3, V_3'⟩, ⟨L_3, L_3'⟩, ⟨O_3, O_3'⟩, ⟨X_3, X_3'⟩, hB_3⟩
        clear V_2 V_2' L_2 L_2' O_2 O_2' hB_2
        have hz_3 : w.heap.size ≤ v3.heap.size := hB_3.size
        have hl_V_3 := isRow.lt V_3
        have ne_V_3_0 : ¬ gv = v3.heap.size := by omega
        have en_V_3_0 : ¬ v3.heap.size = gv := by omega
        have ne_V_3_1 : ¬ gv = v3.heap.size + 1 := by omega
        have en_V_3_1 : ¬ v3.heap.size + 1 = gv := by omega
        have hl_L_3 := isRow.lt L_3
        have ne_L_3_0 : ¬ lv = v3.heap.size := by omega
        have en_L_3_0 : ¬ v3.heap.size = lv := by omega
        have ne_L_3_1 : ¬ lv = v3.heap.size + 1 := by omega
        have en_L_3_1 : ¬ v3.heap.size + 1 = lv := by omega
        have hl_O_3 := isRow.lt O_3
        have ne_O_3_0 : ¬ ob = v3.heap.size := by omega
        have en_O_3_0 : ¬ v3.heap.size = ob := by omega
        have ne_O_3_1 : ¬ ob = v3.heap.size + 1 := by omega
        have en_O_3_1 : ¬ v3.heap.size + 1 = ob := by omega
        have hl_X_3 := isRow.lt X_3
        have ne_X_3_0 : ¬ v2.heap.size = v3.heap.size := by omega
        have en_X_3_0 : ¬ v3.heap.size = v2.heap.size := by omega
        have ne_X_3_1 : ¬ v2.heap.size = v3.heap.size + 1 := by omega
        have en_X_3_1 : ¬ v3.heap.size + 1 = v2.heap.size := by omega
        refine wp_region_held_drew (S := fun w' => isRow w' gv ∧ rowAt w' gv = #[.int .i64 m, .int .i64 p0, .int .i64 p1, .bool o0, .bool o1, .bool sp, .int .u32 a, .int .u32 b, .slice (some ⟨lv, 0, none⟩) ys.length ys.length, .int .i64 lost] ∧ isRow w' lv ∧ rowAt w' lv = (FA ys) ∧ isRow w' ob ∧ rowAt w' ob = csO ∧ isRow w' v2.heap.size ∧ rowAt w' v2.heap.size = #[.int .i64 id, .int .i64 pr, .int .i64 gr, .bool is] ∧ Below w.heap.size w w') (by kernel_rfl) ⟨V_3, V_3', L_3, L_3', O_3, O_3', X_3, X_3', below_drew0 hB_3⟩ (fun hHeld => ?_)
        refine wpAnyH_take (i := 0) (oi := { dst := some 38, op := Op.move (Operand.tmp 10), type := 24, pos := "law.go:181", after := #[], guard := none }) (v := ?_) rfl (by kernel_rfl) (by kernel_rfl) (by kernel_rfl) (fun _ _ _ h => h) (Or.inl ⟨by rfl, ?_⟩) (by assumption) ?_
        rotate_left
        · (intro w_ hS_; (try dsimp only at hS_); go_simp; try with_reducible rfl)
        try simp only [Act.put, List.setIfInBounds_toArray, List.set_cons_zero, List.set_cons_succ]
        refine wpAnyH_take (i := 1) (oi := { dst := some 39, op := Op.nilCheck (Operand.tmp 38), type := 0, pos := "law.go:181", after := #[{ on := 0, ground := Ground.data }], guard := none }) (v := ?_) rfl (by kernel_rfl) (by kernel_rfl) (by kernel_rfl) (fun _ _ _ h => h) (Or.inl ⟨by rfl, ?_⟩) (by assumption) ?_
        rotate_left
        · (intro w_ hS_; (try dsimp only at hS_); go_simp; try with_reducible rfl)
        try simp only [Act.put, List.setIfInBounds_toArray, List.set_cons_zero, List.set_cons_succ]
        refine wpAnyH_take (i := 2) (oi := { dst := some 40, op := Op.fieldAddr 37 (Operand.tmp 39) 0, type := 0, pos := "law.go:181", after := #[{ on := 1, ground := Ground.data }], guard := none }) (v := ?_) rfl (by kernel_rfl) (by kernel_rfl) (by kernel_rfl) (fun _ _ _ h => h) (Or.inl ⟨by rfl, ?_⟩) (by assumption) ?_
        rotate_left
        · (intro w_ hS_; (try dsimp only at hS_); go_simp; try with_reducible rfl)
        try simp only [Act.put, List.setIfInBounds_toArray, List.set_cons_zero, List.set_cons_succ]
        refine wpAnyH_take (i := 3) (oi := { dst := some 41, op := Op.load 35 (Operand.tmp 40), type := 35, pos := "law.go:181", after := #[{ on := 2, ground := Ground.data }], guard := none }) (v := ?_) rfl (by kernel_rfl) (by kernel_rfl) (by kernel_rfl) (fun _ _ _ h => h) (Or.inl ⟨by rfl, ?_⟩) (by assumption) ?_
        rotate_left
        · (intro w_ hS_; (try dsimp only at hS_); go_simp; try with_reducible rfl)
        try simp only [Act.put, List.setIfInBounds_toArray, List.set_cons_zero, List.set_cons_succ]
        refine wpAnyH_take (i := 4) (oi := { dst := some 42, op := Op.load 47 (Operand.tmp 12), type := 47, pos := "law.go:181", after := #[], guard := none }) (v := ?_) rfl (by kernel_rfl) (by kernel_rfl) (by kernel_rfl) (fun _ _ _ h => h) (Or.inl ⟨by rfl, ?_⟩) (by assumption) ?_
        rotate_left
        · (intro w_ hS_; (try dsimp only at hS_); go_simp; try with_reducible rfl)
        try simp only [Act.put, List.setIfInBounds_toArray, List.set_cons_zero, List.set_cons_succ]
        refine wpAnyH_ready (rs := [5]) (by kernel_rfl) (by simp) ?_
        refine AllReadyH.cons (o := { dst := some 43, op := Op.call { callee := Callee.value (Operand.func 20), args := #[Operand.tmp 41, Operand.tmp 42], argTypes := #[35, 47] }, type := 4, pos := "law.go:181", after := #[{ on := 3, ground := Ground.data }, { on := 4, ground := Ground.data }], guard := none }) rfl (fun K hK => ?_) AllReadyH.nil
        go_simp
        (have hq_ := hHeld; (try dsimp only at hq_); go_split_ands)
        refine (HM.out _).mono ?_
        rintro e w4 ⟨rfl, hb⟩
        refine hK.out _ _ ?_ (fun hHeld => ?_)
        · (go_split_ands; exact ⟨rk1 (by assumption) hb, rk2 (by assumption) (by assumption) hb, rk1 (by assumption) hb, rk2 (by assumption) (by assumption) hb, rk1 (by assumption) hb, rk2 (by assumption) (by assumption) hb, rk1 (by assumption) hb, rk2 (by assumption) (by assumption) hb, bk (by assumption) (Below.size (by assumption)) hb⟩)
        clear hK K
        try simp only [Act.put, List.setIfInBounds_toArray, List.set_cons_zero, List.set_cons_succ]
        refine wpAnyH_take (i := 6) (oi := { dst := some 44, op := Op.move (Operand.tmp 43), type := 4, pos := "law.go:181", after := #[{ on := 5, ground := Ground.data }, { on := 5, ground := Ground.chain }], guard := none }) (v := ?_) rfl (by kernel_rfl) (by kernel_rfl) (by kernel_rfl) (fun _ _ _ h => h) (Or.inl ⟨by rfl, ?_⟩) (by assumption) ?_
        rotate_left
        · (intro w_ hS_; (try dsimp only at hS_); go_simp; try with_reducible rfl)
        try simp only [Act.put, List.setIfInBounds_toArray, List.set_cons_zero, List.set_cons_succ]
        refine wpAnyH_take (i := 7) (oi := { dst := some 45, op := Op.fieldAddr 47 (Operand.tmp 12) 2, type := 0, pos := "law.go:181", after := #[{ on := 6, ground := Ground.guard }], guard := some (6, true) }) (v := ?_) rfl (by kernel_rfl) (by kernel_rfl) (by kernel_rfl) (fun _ _ _ h => h) (Or.inl ⟨by rfl, ?_⟩) (by assumption) ?_
        rotate_left
        · (intro w_ hS_; (try dsimp only at hS_); go_simp; try with_reducible rfl)
        try simp only [Act.put, List.setIfInBounds_toArray, List.set_cons_zero, List.set_cons_succ]
        refine wpAnyH_take (i := 8) (oi := { dst := some 46, op := Op.load 3 (Operand.tmp 45), type := 3, pos := "law.go:181", after := #[{ on := 7, ground := Ground.data }, { on := 6, ground := Ground.guard }], guard := some (6, true) }) (v := ?_) rfl (by kernel_rfl) (by kernel_rfl) (by kernel_rfl) (fun _ _ _ h => h) (Or.inl ⟨by rfl, ?_⟩) (by assumption) ?_
        rotate_left
        · (intro w_ hS_; (try dsimp only at hS_); go_simp; try with_reducible rfl)
        try simp only [Act.put, List.setIfInBounds_toArray, List.set_cons_zero, List.set_cons_succ]
        refine wpAnyH_take (i := 9) (oi := { dst := some 47, op := Op.move (Operand.tmp 3), type := 3, pos := "law.go:181", after := #[{ on := 6, ground := Ground.guard }], guard := some (6, true) }) (v := ?_) rfl (by kernel_rfl) (by kernel_rfl) (by kernel_rfl) (fun _ _ _ h => h) (Or.inl ⟨by rfl, ?_⟩) (by assumption) ?_
        rotate_left
        · (intro w_ hS_; (try dsimp only at hS_); go_simp; try with_reducible rfl)
        try simp only [Act.put, List.setIfInBounds_toArray, List.set_cons_zero, List.set_cons_succ]
        refine wpAnyH_take (i := 10) (oi := { dst := some 48, op := Op.binOp BinOp.eql 3 (Operand.tmp 46) (Operand.tmp 47) 3, type := 4, pos := "law.go:181", after := #[{ on := 8, ground := Ground.data }, { on := 9, ground := Ground.data }, { on := 6, ground := Ground.guard }], guard := some (6, true) }) (v := ?_) rfl (by kernel_rfl) (by kernel_rfl) (by kernel_rfl) (fun _ _ _ h => h) (Or.inl ⟨by rfl, ?_⟩) (by assumption) ?_
        rotate_left
        · (intro w_ hS_; (try dsimp only at hS_); go_simp; try with_reducible rfl)
        try simp only [Act.put, List.setIfInBounds_toArray, List.set_cons_zero, List.set_cons_succ]
        refine wpAnyH_take (i := 11) (oi := { dst := some 49, op := Op.pick (Operand.tmp 44) (Operand.tmp 48) (Operand.const (Value.bool false)), type := 4, pos := "law.go:181", after := #[{ on := 6, ground := Ground.data }, { on := 10, ground := Ground.data }], guard := none }) (v := ?_) rfl (by kernel_rfl) (by kernel_rfl) (by kernel_rfl) (fun _ _ _ h => h) (Or.inl ⟨by rfl, ?_⟩) (by assumption) ?_
        rotate_left
        · (intro w_ hS_; (try dsimp only at hS_); go_simp; try with_reducible rfl)
        try simp only [Act.put, List.setIfInBounds_toArray, List.set_cons_zero, List.set_cons_succ]
        refine wpAnyH_take (i := 12) (oi := { dst := some 13, op := Op.assign (Operand.tmp 49), type := 4, pos := "law.go:181", after := #[{ on := 11, ground := Ground.data }, { on := 6, ground := Ground.chain }, { on := 0, ground := Ground.phase }, { on := 1, ground := Ground.phase }, { on := 2, ground := Ground.phase }, { on := 3, ground := Ground.phase }, { on := 4, ground := Ground.phase }, { on := 5, ground := Ground.phase }, { on := 6, ground := Ground.phase }, { on := 7, ground := Ground.phase }, { on := 8, ground := Ground.phase }, { on := 9, ground := Ground.phase }, { on := 10, ground := Ground.phase }, { on := 11, ground := Ground.phase }], guard := none }) (v := ?_) rfl (by kernel_rfl) (by kernel_rfl) (by kernel_rfl) (fun _ _ _ h => h) (Or.inl ⟨by rfl, ?_⟩) (by assumption) ?_
        rotate_left
        · (intro w_ hS_; (try dsimp only at hS_); go_simp; try with_reducible rfl)
        try simp only [Act.put, List.setIfInBounds_toArray, List.set_cons_zero, List.set_cons_succ]
        refine wpAnyH_done (by kernel_rfl) ?_ _
        (try dsimp only at hHeld)
        go_split_ands
        go_wp2_with fail
        refine (HA.out _ (by go_simp) (by go_simp) (by go_simp) (by go_simp)).mono ?_
        rintro e v4 ⟨rfl, ⟨V_4, V_4'⟩, ⟨L_4, L_4'⟩, hA4⟩
        obtain ⟨O_4, O_4'⟩ : Row v4 ob csO := hA4.row ⟨by go_simp, by go_simp⟩ (by omega) (by omega)
        obtain ⟨X_4, X_4'⟩ : Row v4 v2.heap.size #[.int .i64 id, .int .i64 pr, .int .i64 gr, .bool is] := hA4.row ⟨by go_simp, by go_simp⟩ (by omega) (by omega)
        have hB_4 : Below w.heap.size w v4 := hA4.below (by go_simp) (by first | omega | (go_simp; done) | (go_simp; omega)) (by first | omega | (go_simp; done) | (go_simp; omega)) (by first | (go_simp; done) | (go_simp; omega) | exact Below.size (by assumption))
        clear  hA4
        have hz_4 : w.heap.size ≤ v4.heap.size := hB_4.size
        have hl_V_4 := isRow.lt V_4
        have ne_V_4_0 : ¬ gv = v4.heap.size := by omega
        have en_V_4_0 : ¬ v4.heap.size = gv := by omega
        have ne_V_4_1 : ¬ gv = v4.heap.size + 1 := by omega
        have en_V_4_1 : ¬ v4.heap.size + 1 = gv := by omega
        have hl_L_4 := isRow.lt L_4
        have ne_L_4_0 : ¬ lv = v4.heap.size := by omega
        have en_L_4_0 : ¬ v4.heap.size = lv := by omega
        have ne_L_4_1 : ¬ lv = v4.heap.size + 1 := by omega
        have en_L_4_1 : ¬ v4.heap.size + 1 = lv := by omega
        have hl_O_4 := isRow.lt O_4
        have ne_O_4_0 : ¬ ob = v4.heap.size := by omega
        have en_O_4_0 : ¬ v4.heap.size = ob := by omega
        have ne_O_4_1 : ¬ ob = v4.heap.size + 1 := by omega
        have en_O_4_1 : ¬ v4.heap.size + 1 = ob := by omega
        have hl_X_4 := isRow.lt X_4
        have ne_X_4_0 : ¬ v2.heap.size = v4.heap.size := by omega
        have en_X_4_0 : ¬ v4.heap.size = v2.heap.size := by omega
        have ne_X_4_1 : ¬ v2.heap.size = v4.heap.size + 1 := by omega
        have en_X_4_1 : ¬ v4.heap.size + 1 = v2.heap.size := by omega
        go_wp2_with fail
        refine (HF.out _ _ _ _ (by go_simp) (by go_simp) hpO hcO).mono ?_
        rintro e v5 ⟨rfl, hb5⟩
        obtain ⟨V_5, V_5'⟩ : Row v5 gv #[.int .i64 m, .int .i64 p0, .int .i64 p1, .bool o0, .bool o1, .bool sp, .int .u32 a2, .int .u32 b2, .slice (some ⟨lv, 0, none⟩) ys.length ys.length, .int .i64 lost] := Row.step (by go_simp) (by go_simp) hb5
        obtain ⟨L_5, L_5'⟩ : Row v5 lv (FA (setSt ys k 2)) := Row.step (by go_simp) (by go_simp) hb5
        obtain ⟨O_5, O_5'⟩ : Row v5 ob csO := Row.step (by go_simp) (by go_simp) hb5
        obtain ⟨X_5, X_5'⟩ : Row v5 v2.heap.size #[.int .i64 id, .int .i64 pr, .int .i64 gr, .bool is] := Row.step (by go_simp) (by go_simp) hb5
        have hB_5 : Below w.heap.size w v5 := bk (by go_simp) (by first | (go_simp; done) | (go_simp; omega) | exact Below.size (by assumption)) hb5
        clear V_4 V_4' L_4 L_4' O_4 O_4' X_4 X_4' hB_4 hb5
        have hz_5 : w.heap.size ≤ v5.heap.size := hB_5.size
        have hl_V_5 := isRow.lt V_5
        have ne_V_5_0 : ¬ gv = v5.heap.size := by omega
        have en_V_5_0 : ¬ v5.heap.size = gv := by omega
        have ne_V_5_1 : ¬ gv = v5.heap.size + 1 := by omega
        have en_V_5_1 : ¬ v5.heap.size + 1 = gv := by omega
        have hl_L_5 := isRow.lt L_5
        have ne_L_5_0 : ¬ lv = v5.heap.size := by omega
        have en_L_5_0 : ¬ v5.heap.size = lv := by omega
        have ne_L_5_1 : ¬ lv = v5.heap.size + 1 := by omega
        have en_L_5_1 : ¬ v5.heap.size + 1 = lv := by omega
        have hl_O_5 := isRow.lt O_5
        have ne_O_5_0 : ¬ ob = v5.heap.size := by omega
        have en_O_5_0 : ¬ v5.heap.size = ob := by omega
        have ne_O_5_1 : ¬ ob = v5.heap.size + 1 := by omega
        have en_O_5_1 : ¬ v5.heap.size + 1 = ob := by omega
        have hl_X_5 := isRow.lt X_5
        have ne_X_5_0 : ¬ v2.heap.size = v5.heap.size := by omega
        have en_X_5_0 : ¬ v5.heap.size = v2.heap.size := by omega
        have ne_X_5_1 : ¬ v2.heap.size = v5.heap.size + 1 := by omega
        have en_X_5_1 : ¬ v5.heap.size + 1 = v2.heap.size := by omega
        have cc0 := pre_gets hpO k hk
        have cc1 := (FA_gets (setSt ys k 2) k (by rw [setSt_length]; exact hk)).1
        rw [rd_setSt ys k 2 k hk, if_pos rfl] at cc1
        rw [q0] at cc0
        have hps := pre_set hpO k 2 hk
        go_wp2_with fail
        refine (same_n (setSt_length ys k 2) h16 (by go_simp) (by go_simp) hps hcO (by go_simp) (by go_simp) (Nat.le_refl _)).mono ?_
        rintro e v6 ⟨rfl, hb6⟩
        obtain ⟨V_6, V_6'⟩ : Row v6 gv #[.int .i64 m, .int .i64 p0, .int .i64 p1, .bool o0, .bool o1, .bool sp, .int .u32 a2, .int .u32 b2, .slice (some ⟨lv, 0, none⟩) ys.length ys.length, .int .i64 lost] := Row.step (by go_simp) (by go_simp) hb6
        obtain ⟨L_6, L_6'⟩ : Row v6 lv (FA (setSt ys k 2)) := Row.step (by go_simp) (by go_simp) hb6
        obtain ⟨O_6, O_6'⟩ : Row v6 ob (csO.setIfInBounds (k * 7) (.int .i64 2)) := Row.step (by go_simp) (by go_simp) hb6
        obtain ⟨X_6, X_6'⟩ : Row v6 v2.heap.size #[.int .i64 id, .int .i64 pr, .int .i64 gr, .bool is] := Row.step (by go_simp) (by go_simp) hb6
        have hB_6 : Below w.heap.size w v6 := bk (by go_simp) (by first | (go_simp; done) | (go_simp; omega) | exact Below.size (by assumption)) hb6
        clear V_5 V_5' L_5 L_5' O_5 O_5' X_5 X_5' hB_5 hb6
        have hz_6 : w.heap.size ≤ v6.heap.size := hB_6.size
        have hl_V_6 := isRow.lt V_6
        have ne_V_6_0 : ¬ gv = v6.heap.size := by omega
        have en_V_6_0 : ¬ v6.heap.size = gv := by omega
        have ne_V_6_1 : ¬ gv = v6.heap.size + 1 := by omega
        have en_V_6_1 : ¬ v6.heap.size + 1 = gv := by omega
        have hl_L_6 := isRow.lt L_6
        have ne_L_6_0 : ¬ lv = v6.heap.size := by omega
        have en_L_6_0 : ¬ v6.heap.size = lv := by omega
        have ne_L_6_1 : ¬ lv = v6.heap.size + 1 := by omega
        have en_L_6_1 : ¬ v6.heap.size + 1 = lv := by omega
        have hl_O_6 := isRow.lt O_6
        have ne_O_6_0 : ¬ ob = v6.heap.size := by omega
        have en_O_6_0 : ¬ v6.heap.size = ob := by omega
        have ne_O_6_1 : ¬ ob = v6.heap.size + 1 := by omega
        have en_O_6_1 : ¬ v6.heap.size + 1 = ob := by omega
        have hl_X_6 := isRow.lt X_6
        have ne_X_6_0 : ¬ v2.heap.size = v6.heap.size := by omega
        have en_X_6_0 : ¬ v6.heap.size = v2.heap.size := by omega
        have ne_X_6_1 : ¬ v2.heap.size = v6.heap.size + 1 := by omega
        have en_X_6_1 : ¬ v6.heap.size + 1 = v2.heap.size := by omega
        go_wp2
        go_ret
        exact ⟨rfl, by go_simp⟩
    · have hT : ackT m p0 p1 o0 o1 a b ys gp = false := by unfold ackT takeB; rw [hm, show ((best ys).gr == gp) = false by simpa using hgr]; rfl
      clear HF
      obtain ⟨a2, b2, hA⟩ : ∃ a2 b2 : Int, ∀ W, isRow W gv → rowAt W gv = #[.int .i64 m, .int .i64 p0, .int .i64 p1, .bool o0, .bool o1, .bool sp, .int .u32 a, .int .u32 b, .slice (some ⟨lv, 0, none⟩) ys.length ys.length, .int .i64 lost] → isRow W lv → rowAt W lv = FA ys → Calls Try.prog 17 #[.pointer (some ⟨gv, 0, none⟩), .int .i64 gp] W fun e w' => e = .returned (.int .i64 1023) ∧ Row w' gv #[.int .i64 m, .int .i64 p0, .int .i64 p1, .bool o0, .bool o1, .bool sp, .int .u32 a2, .int .u32 b2, .slice (some ⟨lv, 0, none⟩) ys.length ys.length, .int .i64 lost] ∧ Row w' lv (FA ys) ∧ Aside2 gv lv W w' := ⟨_, _, fun W q1 q2 q3 q4 => by
        have q := ack_c gv lv m p0 p1 o0 o1 sp a b ys h16 lost gp n12 W q1 q2 q3 q4
        unfold ackId ackXs at q
        rw [if_neg (by rw [hT]; decide), if_neg (by rw [hT]; decide)] at q
        exact q⟩
      have HA := Lib.hid hA
      clear hA
      generalize hbe : best ys = bs at *
      obtain ⟨id, pr, gr, is⟩ := bs
      dsimp only at HB HM HA hm hgr
      rw [hm] at HM
      clear hT hbe hm
      have hgr2 : (gr == gp) = false := nbeq hgr
      go_wp2_with (at_builtin; refine Kd.R_append_rows k54 (Rr := k54.K v0) (w0 := v0) v0.heap.size rfl _ _ 22 54 (.agg (enc z54)) 56 rfl Try.underlying22 infoL5 rfl (by decide) (by decide) _ ([] : List S54) ys (some ⟨lv, 0, none⟩) ys.length ys.length (fun _ => True) (fun _ => False) rfl rfl (Kd.R_nil _ _ _ _ _) (fa_kd L0 L0' (by omega)) (fun p cs hp => by rw [k54_open hp]; exact k54_mkM _ _ _ _) (fun _ h => h.elim) (fun _ _ => trivial) (Below.refl _ _) (by simp) (by simp; omega) ?_; intro x_ v1 hR_ hb1 _ _; refine stop_in ?_)
      refine stop_out ?_
      rw [List.nil_append] at hR_
      obtain ⟨ob, cO, csO, rfl, hcO, hob, ⟨O_1, O_1'⟩, hpO⟩ := copied hR_ h0
      clear hR_
      have ne_V_O : ¬ gv = ob := by have := isRow.lt V0; omega
      have en_V_O : ¬ ob = gv := by omega
      have ne_L_O : ¬ lv = ob := by have := isRow.lt L0; omega
      have en_L_O : ¬ ob = lv := by omega
      have hwob : w.heap.size ≤ ob := Nat.le_trans hB0.size hob
      obtain ⟨V_1, V_1'⟩ : Row v1 gv #[.int .i64 m, .int .i64 p0, .int .i64 p1, .bool o0, .bool o1, .bool sp, .int .u32 a, .int .u32 b, .slice (some ⟨lv, 0, none⟩) ys.length ys.length, .int .i64 lost] := Row.step (by go_simp) (by go_simp) hb1
      obtain ⟨L_1, L_1'⟩ : Row v1 lv (FA ys) := Row.step (by go_simp) (by go_simp) hb1
      have hB_1 : Below w.heap.size w v1 := bk (by go_simp) (by first | (go_simp; done) | (go_simp; omega) | exact Below.size (by assumption)) hb1
      clear V0 V0' L0 L0' hB0 hb1
      have hz_1 : w.heap.size ≤ v1.heap.size := hB_1.size
      have hl_V_1 := isRow.lt V_1
      have ne_V_1_0 : ¬ gv = v1.heap.size := by omega
      have en_V_1_0 : ¬ v1.heap.size = gv := by omega
      have ne_V_1_1 : ¬ gv = v1.heap.size + 1 := by omega
      have en_V_1_1 : ¬ v1.heap.size + 1 = gv := by omega
      have hl_L_1 := isRow.lt L_1
      have ne_L_1_0 : ¬ lv = v1.heap.size := by omega
      have en_L_1_0 : ¬ v1.heap.size = lv := by omega
      have ne_L_1_1 : ¬ lv = v1.heap.size + 1 := by omega
      have en_L_1_1 : ¬ v1.heap.size + 1 = lv := by omega
      have hl_O_1 := isRow.lt O_1
      have ne_O_1_0 : ¬ ob = v1.heap.size := by omega
      have en_O_1_0 : ¬ v1.heap.size = ob := by omega
      have ne_O_1_1 : ¬ ob = v1.heap.size + 1 := by omega
      have en_O_1_1 : ¬ v1.heap.size + 1 = ob := by omega
      go_wp2_with fail
      refine (HB.out _ (by go_simp) (by go_simp) (by go_simp) (by go_simp)).mono ?_
      rintro e v2 ⟨rfl, hb2⟩
      obtain ⟨V_2, V_2'⟩ : Row v2 gv #[.int .i64 m, .int .i64 p0, .int .i64 p1, .bool o0, .bool o1, .bool sp, .int .u32 a, .int .u32 b, .slice (some ⟨lv, 0, none⟩) ys.length ys.length, .int .i64 lost] := Row.step (by go_simp) (by go_simp) hb2
      obtain ⟨L_2, L_2'⟩ : Row v2 lv (FA ys) := Row.step (by go_simp) (by go_simp) hb2
      obtain ⟨O_2, O_2'⟩ : Row v2 ob csO := Row.step (by go_simp) (by go_simp) hb2
      have hB_2 : Below w.heap.size w v2 := bk (by go_simp) (by first | (go_simp; done) | (go_simp; omega) | exact Below.size (by assumption)) hb2
      clear V_1 V_1' L_1 L_1' O_1 O_1' hB_1 hb2
      have hz_2 : w.heap.size ≤ v2.heap.size := hB_2.size
      have hl_V_2 := isRow.lt V_2
      have ne_V_2_0 : ¬ gv = v2.heap.size := by omega
      have en_V_2_0 : ¬ v2.heap.size = gv := by omega
      have ne_V_2_1 : ¬ gv = v2.heap.size + 1 := by omega
      have en_V_2_1 : ¬ v2.heap.size + 1 = gv := by omega
      have hl_L_2 := isRow.lt L_2
      have ne_L_2_0 : ¬ lv = v2.heap.size := by omega
      have en_L_2_0 : ¬ v2.heap.size = lv := by omega
      have ne_L_2_1 : ¬ lv = v2.heap.size + 1 := by omega
      have en_L_2_1 : ¬ v2.heap.size + 1 = lv := by omega
      have hl_O_2 := isRow.lt O_2
      have ne_O_2_0 : ¬ ob = v2.heap.size := by omega
      have en_O_2_0 : ¬ v2.heap.size = ob := by omega
      have ne_O_2_1 : ¬ ob = v2.heap.size + 1 := by omega
      have en_O_2_1 : ¬ v2.heap.size + 1 = ob := by omega
      go_wp2_with fail
      have ne_V_X : ¬ gv = v2.heap.size := by omega
      have en_V_X : ¬ v2.heap.size = gv := by omega
      have ne_L_X : ¬ lv = v2.heap.size := by omega
      have en_L_X : ¬ v2.heap.size = lv := by omega
      have ne_O_X : ¬ ob = v2.heap.size := by omega
      have en_O_X : ¬ v2.heap.size = ob := by omega
      refine wp_named (fun W_ => (isRow W_ gv ∧ rowAt W_ gv = #[.int .i64 m, .int .i64 p0, .int .i64 p1, .bool o0, .bool o1, .bool sp, .int .u32 a, .int .u32 b, .slice (some ⟨lv, 0, none⟩) ys.length ys.length, .int .i64 lost]) ∧ (isRow W_ lv ∧ rowAt W_ lv = (FA ys)) ∧ (isRow W_ ob ∧ rowAt W_ ob = csO) ∧ (isRow W_ v2.heap.size ∧ rowAt W_ v2.heap.size = #[.int .i64 id, .int .i64 pr, .int .i64 gr, .bool is]) ∧ Below w.heap.size w W_) (by refine ⟨⟨by go_simp, by go_simp⟩, ⟨by go_simp, by go_simp⟩, ⟨by go_simp, by go_simp⟩, ⟨by go_simp, by go_simp⟩, by go_simp⟩) ?_
      rintro v3 ⟨⟨V_3, V_3'⟩, ⟨L_3, L_3'⟩, ⟨O_3, O_3'⟩, ⟨X_3, X_3'⟩, hB_3⟩
      clear V_2 V_2' L_2 L_2' O_2 O_2' hB_2
      have hz_3 : w.heap.size ≤ v3.heap.size := hB_3.size
      have hl_V_3 := isRow.lt V_3
      have ne_V_3_0 : ¬ gv = v3.heap.size := by omega
      have en_V_3_0 : ¬ v3.heap.size = gv := by omega
      have ne_V_3_1 : ¬ gv = v3.heap.size + 1 := by omega
      have en_V_3_1 : ¬ v3.heap.size + 1 = gv := by omega
      have hl_L_3 := isRow.lt L_3
      have ne_L_3_0 : ¬ lv = v3.heap.size := by omega
      have en_L_3_0 : ¬ v3.heap.size = lv := by omega
      have ne_L_3_1 : ¬ lv = v3.heap.size + 1 := by omega
      have en_L_3_1 : ¬ v3.heap.size + 1 = lv := by omega
      have hl_O_3 := isRow.lt O_3
      have ne_O_3_0 : ¬ ob = v3.heap.size := by omega
      have en_O_3_0 : ¬ v3.heap.size = ob := by omega
      have ne_O_3_1 : ¬ ob = v3.heap.size + 1 := by omega
      have en_O_3_1 : ¬ v3.heap.size + 1 = ob := by omega
      have hl_X_3 := isRow.lt X_3
      have ne_X_3_0 : ¬ v2.heap.size = v3.heap.size := by omega
      have en_X_3_0 : ¬ v3.heap.size = v2.heap.size := by omega
      have ne_X_3_1 : ¬ v2.heap.size = v3.heap.size + 1 := by omega
      have en_X_3_1 : ¬ v3.heap.size + 1 = v2.heap.size := by omega
      refine wp_region_held_drew (S := fun w' => isRow w' gv ∧ rowAt w' gv = #[.int .i64 m, .int .i64 p0, .int .i64 p1, .bool o0, .bool o1, .bool sp, .int .u32 a, .int .u32 b, .slice (some ⟨lv, 0, none⟩) ys.length ys.length, .int .i64 lost] ∧ isRow w' lv ∧ rowAt w' lv = (FA ys) ∧ isRow w' ob ∧ rowAt w' ob = csO ∧ isRow w' v2.heap.size ∧ rowAt w' v2.heap.size = #[.int .i64 id, .int .i64 pr, .int .i64 gr, .bool is] ∧ Below w.heap.size w w') (by kernel_rfl) ⟨V_3, V_3', L_3, L_3', O_3, O_3', X_3, X_3', below_drew0 hB_3⟩ (fun hHeld => ?_)
      refine wpAnyH_take (i := 0) (oi := { dst := some 38, op := Op.move (Operand.tmp 10), type := 24, pos := "law.go:181", after := #[], guard := none }) (v := ?_) rfl (by kernel_rfl) (by kernel_rfl) (by kernel_rfl) (fun _ _ _ h => h) (Or.inl ⟨by rfl, ?_⟩) (by assumption) ?_
      rotate_left
      · (intro w_ hS_; (try dsimp only at hS_); go_simp; try with_reducible rfl)
      try simp only [Act.put, List.setIfInBounds_toArray, List.set_cons_zero, List.set_cons_succ]
      refine wpAnyH_take (i := 1) (oi := { dst := some 39, op := Op.nilCheck (Operand.tmp 38), type := 0, pos := "law.go:181", after := #[{ on := 0, ground := Ground.data }], guard := none }) (v := ?_) rfl (by kernel_rfl) (by kernel_rfl) (by kernel_rfl) (fun _ _ _ h => h) (Or.inl ⟨by rfl, ?_⟩) (by assumption) ?_
      rotate_left
      · (intro w_ hS_; (try dsimp only at hS_); go_simp; try with_reducible rfl)
      try simp only [Act.put, List.setIfInBounds_toArray, List.set_cons_zero, List.set_cons_succ]
      refine wpAnyH_take (i := 2) (oi := { dst := some 40, op := Op.fieldAddr 37 (Operand.tmp 39) 0, type := 0, pos := "law.go:181", after := #[{ on := 1, ground := Ground.data }], guard := none }) (v := ?_) rfl (by kernel_rfl) (by kernel_rfl) (by kernel_rfl) (fun _ _ _ h => h) (Or.inl ⟨by rfl, ?_⟩) (by assumption) ?_
      rotate_left
      · (intro w_ hS_; (try dsimp only at hS_); go_simp; try with_reducible rfl)
      try simp only [Act.put, List.setIfInBounds_toArray, List.set_cons_zero, List.set_cons_succ]
      refine wpAnyH_take (i := 3) (oi := { dst := some 41, op := Op.load 35 (Operand.tmp 40), type := 35, pos := "law.go:181", after := #[{ on := 2, ground := Ground.data }], guard := none }) (v := ?_) rfl (by kernel_rfl) (by kernel_rfl) (by kernel_rfl) (fun _ _ _ h => h) (Or.inl ⟨by rfl, ?_⟩) (by assumption) ?_
      rotate_left
      · (intro w_ hS_; (try dsimp only at hS_); go_simp; try with_reducible rfl)
      try simp only [Act.put, List.setIfInBounds_toArray, List.set_cons_zero, List.set_cons_succ]
      refine wpAnyH_take (i := 4) (oi := { dst := some 42, op := Op.load 47 (Operand.tmp 12), type := 47, pos := "law.go:181", after := #[], guard := none }) (v := ?_) rfl (by kernel_rfl) (by kernel_rfl) (by kernel_rfl) (fun _ _ _ h => h) (Or.inl ⟨by rfl, ?_⟩) (by assumption) ?_
      rotate_left
      · (intro w_ hS_; (try dsimp only at hS_); go_simp; try with_reducible rfl)
      try simp only [Act.put, List.setIfInBounds_toArray, List.set_cons_zero, List.set_cons_succ]
      refine wpAnyH_ready (rs := [5]) (by kernel_rfl) (by simp) ?_
      refine AllReadyH.cons (o := { dst := some 43, op := Op.call { callee := Callee.value (Operand.func 20), args := #[Operand.tmp 41, Operand.tmp 42], argTypes := #[35, 47] }, type := 4, pos := "law.go:181", after := #[{ on := 3, ground := Ground.data }, { on := 4, ground := Ground.data }], guard := none }) rfl (fun K hK => ?_) AllReadyH.nil
      go_simp
      (have hq_ := hHeld; (try dsimp only at hq_); go_split_ands)
      refine (HM.out _).mono ?_
      rintro e w4 ⟨rfl, hb⟩
      refine hK.out _ _ ?_ (fun hHeld => ?_)
      · (go_split_ands; exact ⟨rk1 (by assumption) hb, rk2 (by assumption) (by assumption) hb, rk1 (by assumption) hb, rk2 (by assumption) (by assumption) hb, rk1 (by assumption) hb, rk2 (by assumption) (by assumption) hb, rk1 (by assumption) hb, rk2 (by assumption) (by assumption) hb, bk (by assumption) (Below.size (by assumption)) hb⟩)
      clear hK K
      try simp only [Act.put, List.setIfInBounds_toArray, List.set_cons_zero, List.set_cons_succ]
      refine wpAnyH_take (i := 6) (oi := { dst := some 44, op := Op.move (Operand.tmp 43), type := 4, pos := "law.go:181", after := #[{ on := 5, ground := Ground.data }, { on := 5, ground := Ground.chain }], guard := none }) (v := ?_) rfl (by kernel_rfl) (by kernel_rfl) (by kernel_rfl) (fun _ _ _ h => h) (Or.inl ⟨by rfl, ?_⟩) (by assumption) ?_
      rotate_left
      · (intro w_ hS_; (try dsimp only at hS_); go_simp; try with_reducible rfl)
      try simp only [Act.put, List.setIfInBounds_toArray, List.set_cons_zero, List.set_cons_succ]
      refine wpAnyH_take (i := 7) (oi := { dst := some 45, op := Op.fieldAddr 47 (Operand.tmp 12) 2, type := 0, pos := "law.go:181", after := #[{ on := 6, ground := Ground.guard }], guard := some (6, true) }) (v := ?_) rfl (by kernel_rfl) (by kernel_rfl) (by kernel_rfl) (fun _ _ _ h => h) (Or.inl ⟨by rfl, ?_⟩) (by assumption) ?_
      rotate_left
      · (intro w_ hS_; (try dsimp only at hS_); go_simp; try with_reducible rfl)
      try simp only [Act.put, List.setIfInBounds_toArray, List.set_cons_zero, List.set_cons_succ]
      refine wpAnyH_take (i := 8) (oi := { dst := some 46, op := Op.load 3 (Operand.tmp 45), type := 3, pos := "law.go:181", after := #[{ on := 7, ground := Ground.data }, { on := 6, ground := Ground.guard }], guard := some (6, true) }) (v := ?_) rfl (by kernel_rfl) (by kernel_rfl) (by kernel_rfl) (fun _ _ _ h => h) (Or.inl ⟨by rfl, ?_⟩) (by assumption) ?_
      rotate_left
      · (intro w_ hS_; (try dsimp only at hS_); go_simp; try with_reducible rfl)
      try simp only [Act.put, List.setIfInBounds_toArray, List.set_cons_zero, List.set_cons_succ]
      refine wpAnyH_take (i := 9) (oi := { dst := some 47, op := Op.move (Operand.tmp 3), type := 3, pos := "law.go:181", after := #[{ on := 6, ground := Ground.guard }], guard := some (6, true) }) (v := ?_) rfl (by kernel_rfl) (by kernel_rfl) (by kernel_rfl) (fun _ _ _ h => h) (Or.inl ⟨by rfl, ?_⟩) (by assumption) ?_
      rotate_left
      · (intro w_ hS_; (try dsimp only at hS_); go_simp; try with_reducible rfl)
      try simp only [Act.put, List.setIfInBounds_toArray, List.set_cons_zero, List.set_cons_succ]
      refine wpAnyH_take (i := 10) (oi := { dst := some 48, op := Op.binOp BinOp.eql 3 (Operand.tmp 46) (Operand.tmp 47) 3, type := 4, pos := "law.go:181", after := #[{ on := 8, ground := Ground.data }, { on := 9, ground := Ground.data }, { on := 6, ground := Ground.guard }], guard := some (6, true) }) (v := ?_) rfl (by kernel_rfl) (by kernel_rfl) (by kernel_rfl) (fun _ _ _ h => h) (Or.inl ⟨by rfl, ?_⟩) (by assumption) ?_
      rotate_left
      · (intro w_ hS_; (try dsimp only at hS_); go_simp; try with_reducible rfl)
      try simp only [Act.put, List.setIfInBounds_toArray, List.set_cons_zero, List.set_cons_succ]
      refine wpAnyH_take (i := 11) (oi := { dst := some 49, op := Op.pick (Operand.tmp 44) (Operand.tmp 48) (Operand.const (Value.bool false)), type := 4, pos := "law.go:181", after := #[{ on := 6, ground := Ground.data }, { on := 10, ground := Ground.data }], guard := none }) (v := ?_) rfl (by kernel_rfl) (by kernel_rfl) (by kernel_rfl) (fun _ _ _ h => h) (Or.inl ⟨by rfl, ?_⟩) (by assumption) ?_
      rotate_left
      · (intro w_ hS_; (try dsimp only at hS_); go_simp; try with_reducible rfl)
      try simp only [Act.put, List.setIfInBounds_toArray, List.set_cons_zero, List.set_cons_succ]
      refine wpAnyH_take (i := 12) (oi := { dst := some 13, op := Op.assign (Operand.tmp 49), type := 4, pos := "law.go:181", after := #[{ on := 11, ground := Ground.data }, { on := 6, ground := Ground.chain }, { on := 0, ground := Ground.phase }, { on := 1, ground := Ground.phase }, { on := 2, ground := Ground.phase }, { on := 3, ground := Ground.phase }, { on := 4, ground := Ground.phase }, { on := 5, ground := Ground.phase }, { on := 6, ground := Ground.phase }, { on := 7, ground := Ground.phase }, { on := 8, ground := Ground.phase }, { on := 9, ground := Ground.phase }, { on := 10, ground := Ground.phase }, { on := 11, ground := Ground.phase }], guard := none }) (v := ?_) rfl (by kernel_rfl) (by kernel_rfl) (by kernel_rfl) (fun _ _ _ h => h) (Or.inl ⟨by rfl, ?_⟩) (by assumption) ?_
      rotate_left
      · (intro w_ hS_; (try dsimp only at hS_); go_simp; try with_reducible rfl)
      try simp only [Act.put, List.setIfInBounds_toArray, List.set_cons_zero, List.set_cons_succ]
      refine wpAnyH_done (by kernel_rfl) ?_ _
      (try dsimp only at hHeld)
      go_split_ands
      go_wp2_with fail
      refine (HA.out _ (by go_simp) (by go_simp) (by go_simp) (by go_simp)).mono ?_
      rintro e v4 ⟨rfl, ⟨V_4, V_4'⟩, ⟨L_4, L_4'⟩, hA4⟩
      obtain ⟨O_4, O_4'⟩ : Row v4 ob csO := hA4.row ⟨by go_simp, by go_simp⟩ (by omega) (by omega)
      obtain ⟨X_4, X_4'⟩ : Row v4 v2.heap.size #[.int .i64 id, .int .i64 pr, .int .i64 gr, .bool is] := hA4.row ⟨by go_simp, by go_simp⟩ (by omega) (by omega)
      have hB_4 : Below w.heap.size w v4 := hA4.below (by go_simp) (by first | omega | (go_simp; done) | (go_simp; omega)) (by first | omega | (go_simp; done) | (go_simp; omega)) (by first | (go_simp; done) | (go_simp; omega) | exact Below.size (by assumption))
      clear  hA4
      have hz_4 : w.heap.size ≤ v4.heap.size := hB_4.size
      have hl_V_4 := isRow.lt V_4
      have ne_V_4_0 : ¬ gv = v4.heap.size := by omega
      have en_V_4_0 : ¬ v4.heap.size = gv := by omega
      have ne_V_4_1 : ¬ gv = v4.heap.size + 1 := by omega
      have en_V_4_1 : ¬ v4.heap.size + 1 = gv := by omega
      have hl_L_4 := isRow.lt L_4
      have ne_L_4_0 : ¬ lv = v4.heap.size := by omega
      have en_L_4_0 : ¬ v4.heap.size = lv := by omega
      have ne_L_4_1 : ¬ lv = v4.heap.size + 1 := by omega
      have en_L_4_1 : ¬ v4.heap.size + 1 = lv := by omega
      have hl_O_4 := isRow.lt O_4
      have ne_O_4_0 : ¬ ob = v4.heap.size := by omega
      have en_O_4_0 : ¬ v4.heap.size = ob := by omega
      have ne_O_4_1 : ¬ ob = v4.heap.size + 1 := by omega
      have en_O_4_1 : ¬ v4.heap.size + 1 = ob := by omega
      have hl_X_4 := isRow.lt X_4
      have ne_X_4_0 : ¬ v2.heap.size = v4.heap.size := by omega
      have en_X_4_0 : ¬ v4.heap.size = v2.heap.size := by omega
      have ne_X_4_1 : ¬ v2.heap.size = v4.heap.size + 1 := by omega
      have en_X_4_1 : ¬ v4.heap.size + 1 = v2.heap.size := by omega
      go_wp2_with fail
      refine (same_c h16 (by go_simp) (by go_simp) hpO hcO (by go_simp) (by go_simp) (Nat.le_refl _)).mono ?_
      rintro e v5 ⟨rfl, hb5⟩
      obtain ⟨V_5, V_5'⟩ : Row v5 gv #[.int .i64 m, .int .i64 p0, .int .i64 p1, .bool o0, .bool o1, .bool sp, .int .u32 a2, .int .u32 b2, .slice (some ⟨lv, 0, none⟩) ys.length ys.length, .int .i64 lost] := Row.step (by go_simp) (by go_simp) hb5
      obtain ⟨L_5, L_5'⟩ : Row v5 lv (FA ys) := Row.step (by go_simp) (by go_simp) hb5
      obtain ⟨O_5, O_5'⟩ : Row v5 ob csO := Row.step (by go_simp) (by go_simp) hb5
      obtain ⟨X_5, X_5'⟩ : Row v5 v2.heap.size #[.int .i64 id, .int .i64 pr, .int .i64 gr, .bool is] := Row.step (by go_simp) (by go_simp) hb5
      have hB_5 : Below w.heap.size w v5 := bk (by go_simp) (by first | (go_simp; done) | (go_simp; omega) | exact Below.size (by assumption)) hb5
      clear V_4 V_4' L_4 L_4' O_4 O_4' X_4 X_4' hB_4 hb5
      have hz_5 : w.heap.size ≤ v5.heap.size := hB_5.size
      have hl_V_5 := isRow.lt V_5
      have ne_V_5_0 : ¬ gv = v5.heap.size := by omega
      have en_V_5_0 : ¬ v5.heap.size = gv := by omega
      have ne_V_5_1 : ¬ gv = v5.heap.size + 1 := by omega
      have en_V_5_1 : ¬ v5.heap.size + 1 = gv := by omega
      have hl_L_5 := isRow.lt L_5
      have ne_L_5_0 : ¬ lv = v5.heap.size := by omega
      have en_L_5_0 : ¬ v5.heap.size = lv := by omega
      have ne_L_5_1 : ¬ lv = v5.heap.size + 1 := by omega
      have en_L_5_1 : ¬ v5.heap.size + 1 = lv := by omega
      have hl_O_5 := isRow.lt O_5
      have ne_O_5_0 : ¬ ob = v5.heap.size := by omega
      have en_O_5_0 : ¬ v5.heap.size = ob := by omega
      have ne_O_5_1 : ¬ ob = v5.heap.size + 1 := by omega
      have en_O_5_1 : ¬ v5.heap.size + 1 = ob := by omega
      have hl_X_5 := isRow.lt X_5
      have ne_X_5_0 : ¬ v2.heap.size = v5.heap.size := by omega
      have en_X_5_0 : ¬ v5.heap.size = v2.heap.size := by omega
      have ne_X_5_1 : ¬ v2.heap.size = v5.heap.size + 1 := by omega
      have en_X_5_1 : ¬ v5.heap.size + 1 = v2.heap.size := by omega
      go_wp2
      go_ret
      exact ⟨rfl, by go_simp⟩
end Go.Proofs.Ytkbaghblchlcnaa.Lr
