/- The law VcpuReads, walked. -/
import Derived.Test.YtkbaghblchlcnaaWl
namespace Go.Proofs.Ytkbaghblchlcnaa.Lr
open Go.RowKit Go.Shelf Go.Proofs.YtkbaghblchlcnaaW.PrintWords Go.Proofs.Ytkbaghblchlcnaa.IAll
attribute [local go_sem] Oper.semAt_some cell_row frozen_row isRow_setCell_eq rowAt_setCell_same rowAt_setCell_other isRow_alloc_eq rowAt_alloc rowAt_new rowAt_new' isRow_setRow_eq rowAt_setRow_same rowAt_setRow_other isRow_drew rowAt_drew size_setRow_ Lb_size Lb_at blk_ptr aggOf_agg below_alloc_e below_setCell_e below_setRow_e below_refl_e below_drew_r aside2_alloc_e aside2_setCell_e aside2_setRow_e aside2_drew_e aside2_refl_e aside2_drewN_e isRow_drewN rowAt_drewN below_drewN_e le_add_r offv_ptr one_lad zero_lad allOne_nil allOne_cons Value.oneCell' addr_at FA_size one_FA FA_size
attribute [local go_sem ↓] storeI storeC
attribute [local go_sem] eq2i eq2b eq2u
set_option maxRecDepth 100000 in
set_option maxHeartbeats 4000000 in
theorem reads_at (c : Int) (c0 : 0 ≤ c) (m' p0' p1' : Int) (o0' o1' sp' : Bool) (a' b' : Int) (ha : 0 ≤ a') (ha2 : a' ≤ 4294967295) (hb : 0 ≤ b') (hb2 : b' ≤ 4294967295) (w : World) (B : Option Addr) (cB : Nat) (sc : List VA) (hS : ScOk w B sc) (r x : Int) (N : VS → Int) (hdo : ∀ s : VS, doV s r false x = (s, ⟨N s, false, -1, true⟩)) (e1 : (r == 1) = false) (e2 : (r == 2) = false) :
    Calls Try.prog 8 #[.int .u8 c, .agg #[.int .i64 m', .int .i64 p0', .int .i64 p1', .bool o0', .bool o1', .bool sp', .int .u32 a', .int .u32 b'], .slice B sc.length cB, .int .i64 r, .bool false, .int .u64 x] w fun e w' => e = .returned (.bool true) ∧ Below w.heap.size w w' := by
  obtain ⟨n, hn, h1, h2⟩ : ∃ n : Nat, 1 + c % 16 = (n : Int) ∧ 1 ≤ n ∧ n ≤ 16 := ⟨(1 + c % 16).toNat, by omega, by omega, by omega⟩
  have hO := (runA_ok n ⟨m', p0', p1', o0', o1', sp', a', b', List.replicate n z54, 0⟩ sc ⟨List.length_replicate, h2, by omega, rep_st n, Int.le_refl 0, by show (0 : Int) ≤ 4611686018427387904; omega⟩ rfl hS.len) sc.length (Nat.le_refl _)
  have HP := Lib.hid (fun (W : World) (h : ScOk W B sc) => played_c n h1 h2 c hn c0 m' p0' p1' o0' o1' sp' a' b' ha ha2 hb hb2 W B cB sc h)
  have HS := Lib.hid hS
  clear hS
  generalize runA n ⟨m', p0', p1', o0', o1', sp', a', b', List.replicate n z54, 0⟩ sc sc.length = s at *
  obtain ⟨⟨hlen, h16, h0, hst, hlo, hhi⟩, -⟩ := hO
  obtain ⟨m, p0, p1, o0, o1, sp, a, b, ys, lost⟩ := s
  simp only at hlen hst hlo hhi
  subst hlen
  go_enter Try.func8, Try.ntmps8
  have hB_0 : Below w.heap.size w w := Below.refl _ _
  go_wp2_with fail
  refine (awake_c _).mono ?_
  rintro e v1 ⟨rfl, hb1⟩
  obtain ⟨F_1, F_1'⟩ : Row v1 w.heap.size #[.int .i64 m', .int .i64 p0', .int .i64 p1', .bool o0', .bool o1', .bool sp', .int .u32 a', .int .u32 b'] := Row.step (by go_simp) (by go_simp) hb1
  have hB_1 : Below w.heap.size w v1 := bk (by go_simp) (by first | (go_simp; done) | (go_simp; omega) | exact Below.size (by assumption)) hb1
  clear hB_0 hb1
  have hz_1 : w.heap.size ≤ v1.heap.size := hB_1.size
  have hl_F_1 := isRow.lt F_1
  have ne_F_1_0 : ¬ w.heap.size = v1.heap.size := by omega
  have en_F_1_0 : ¬ v1.heap.size = w.heap.size := by omega
  have ne_F_1_1 : ¬ w.heap.size = v1.heap.size + 1 := by omega
  have en_F_1_1 : ¬ v1.heap.size + 1 = w.heap.size := by omega
  go_wp2_with fail
  refine (HP.out _ (HS.out.below hB_1)).mono ?_
  rintro e v0 ⟨gv, lv, rfl, hV0, hL0, n12, g1, g2, hb0⟩
  obtain ⟨V0, V0'⟩ : Row v0 gv #[.int .i64 m, .int .i64 p0, .int .i64 p1, .bool o0, .bool o1, .bool sp, .int .u32 a, .int .u32 b, .slice (some ⟨lv, 0, none⟩) ys.length ys.length, .int .i64 lost] := hV0
  obtain ⟨L0, L0'⟩ : Row v0 lv (FA ys) := hL0
  have hB0 : Below w.heap.size w v0 := bk hB_1 hB_1.size hb0
  have gw1 : w.heap.size ≤ gv := Nat.le_trans hB_1.size g1
  have gw2 : w.heap.size ≤ lv := Nat.le_trans hB_1.size g2
  have n21 : ¬ lv = gv := fun e => n12 e.symm
  clear hb0 F_1 F_1' hB_1 HP HS g1 g2 hn h1 h2
  have hS : SOk ys.length ⟨m, p0, p1, o0, o1, sp, a, b, ys, lost⟩ := ⟨rfl, h16, h0, hst, hlo, hhi⟩
  obtain ⟨N2, hD⟩ : ∃ N2 : Int, ∀ W, isRow W gv → rowAt W gv = #[.int .i64 m, .int .i64 p0, .int .i64 p1, .bool o0, .bool o1, .bool sp, .int .u32 a, .int .u32 b, .slice (some ⟨lv, 0, none⟩) ys.length ys.length, .int .i64 lost] → isRow W lv → rowAt W lv = FA ys → Calls Try.prog 28 #[.pointer (some ⟨gv, 0, none⟩), .int .i64 r, .bool false, .int .u64 x] W fun e w' => e = .returned (.tuple #[.int .u64 N2, .agg #[.bool false, .int .i64 (-1)], .bool true]) ∧ Row w' gv #[.int .i64 m, .int .i64 p0, .int .i64 p1, .bool o0, .bool o1, .bool sp, .int .u32 a, .int .u32 b, .slice (some ⟨lv, 0, none⟩) ys.length ys.length, .int .i64 lost] ∧ Row w' lv (FA ys) ∧ Aside2 gv lv W w' := ⟨_, fun W q1 q2 q3 q4 => by
    have q := vdo_c ys.length gv lv ⟨m, p0, p1, o0, o1, sp, a, b, ys, lost⟩ hS n12 W q3 q4 q1 q2 r false x
    rw [hdo] at q
    exact q⟩
  have HD := Lib.hid hD
  clear hD
  go_wp2_with (at_builtin; refine Kd.R_append_rows k54 (Rr := k54.K v0) (w0 := v0) v0.heap.size rfl _ _ 22 54 (.agg (enc z54)) 56 rfl Try.underlying22 infoL5 rfl (by decide) (by decide) _ ([] : List S54) ys (some ⟨lv, 0, none⟩) ys.length ys.length (fun _ => True) (fun _ => False) rfl rfl (Kd.R_nil _ _ _ _ _) (fa_kd L0 L0' (by omega)) (fun p cs hp => by rw [k54_open hp]; exact k54_mkM _ _ _ _) (fun _ h => h.elim) (fun _ _ => trivial) (Below.refl _ _) (by simp) (by simp; omega) ?_; intro x_ v1 hR_ hb1 _ _; refine stop_in ?_)
  refine stop_out ?_
  rw [List.nil_append] at hR_
  obtain ⟨ob, cO, csO, rfl, hcO, hob, ⟨O_1, O_1'⟩, hpO⟩ := copied hR_ h0
  clear hR_
  have ne_V_O : ¬ gv = ob := by have := isRow.lt V0; omega
  have en_V_O : ¬ ob = gv := by omega
  have ne_L_O : ¬ lv = ob := by have := isRow.lt L0; omega
  have en_L_O : ¬ ob = lv := by omega
  have hwob : w.heap.size ≤ ob := Nat.le_trans hB0.size hob
  obtain ⟨V_1, V_1'⟩ : Row v1 gv #[.int .i64 m, .int .i64 p0, .int .i64 p1, .bool o0, .bool o1, .bool sp, .int .u32 a, .int .u32 b, .slice (some ⟨lv, 0, none⟩) ys.length ys.length, .int .i64 lost] := Row.step (by go_simp) (by go_simp) hb1
  obtain ⟨L_1, L_1'⟩ : Row v1 lv (FA ys) := Row.step (by go_simp) (by go_simp) hb1
  have hB_1 : Below w.heap.size w v1 := bk (by go_simp) (by first | (go_simp; done) | (go_simp; omega) | exact Below.size (by assumption)) hb1
  clear V0 V0' L0 L0' hB0 hb1
  have hz_1 : w.heap.size ≤ v1.heap.size := hB_1.size
  have hl_V_1 := isRow.lt V_1
  have ne_V_1_0 : ¬ gv = v1.heap.size := by omega
  have en_V_1_0 : ¬ v1.heap.size = gv := by omega
  have ne_V_1_1 : ¬ gv = v1.heap.size + 1 := by omega
  have en_V_1_1 : ¬ v1.heap.size + 1 = gv := by omega
  have hl_L_1 := isRow.lt L_1
  have ne_L_1_0 : ¬ lv = v1.heap.size := by omega
  have en_L_1_0 : ¬ v1.heap.size = lv := by omega
  have ne_L_1_1 : ¬ lv = v1.heap.size + 1 := by omega
  have en_L_1_1 : ¬ v1.heap.size + 1 = lv := by omega
  have hl_O_1 := isRow.lt O_1
  have ne_O_1_0 : ¬ ob = v1.heap.size := by omega
  have en_O_1_0 : ¬ v1.heap.size = ob := by omega
  have ne_O_1_1 : ¬ ob = v1.heap.size + 1 := by omega
  have en_O_1_1 : ¬ v1.heap.size + 1 = ob := by omega
  go_wp2_with fail
  have ne_V_F : ¬ gv = v1.heap.size := by omega
  have en_V_F : ¬ v1.heap.size = gv := by omega
  have ne_L_F : ¬ lv = v1.heap.size := by omega
  have en_L_F : ¬ v1.heap.size = lv := by omega
  have ne_O_F : ¬ ob = v1.heap.size := by omega
  have en_O_F : ¬ v1.heap.size = ob := by omega
  refine (HD.out _ (by go_simp) (by go_simp) (by go_simp) (by go_simp)).mono ?_
  rintro e v2 ⟨rfl, ⟨V_2, V_2'⟩, ⟨L_2, L_2'⟩, hA2⟩
  obtain ⟨O_2, O_2'⟩ : Row v2 ob csO := hA2.row ⟨by go_simp, by go_simp⟩ (by omega) (by omega)
  obtain ⟨F_2, F_2'⟩ : Row v2 v1.heap.size #[.int .i64 m, .int .i64 p0, .int .i64 p1, .bool o0, .bool o1, .bool sp, .int .u32 a, .int .u32 b] := hA2.row ⟨by go_simp, by go_simp⟩ (by omega) (by omega)
  have hB_2 : Below w.heap.size w v2 := hA2.below (by go_simp) (by first | omega | (go_simp; done) | (go_simp; omega)) (by first | omega | (go_simp; done) | (go_simp; omega)) (by first | (go_simp; done) | (go_simp; omega) | exact Below.size (by assumption))
  clear V_1 V_1' L_1 L_1' O_1 O_1' hB_1 hA2
  have hz_2 : w.heap.size ≤ v2.heap.size := hB_2.size
  have hl_V_2 := isRow.lt V_2
  have ne_V_2_0 : ¬ gv = v2.heap.size := by omega
  have en_V_2_0 : ¬ v2.heap.size = gv := by omega
  have ne_V_2_1 : ¬ gv = v2.heap.size + 1 := by omega
  have en_V_2_1 : ¬ v2.heap.size + 1 = gv := by omega
  have hl_L_2 := isRow.lt L_2
  have ne_L_2_0 : ¬ lv = v2.heap.size := by omega
  have en_L_2_0 : ¬ v2.heap.size = lv := by omega
  have ne_L_2_1 : ¬ lv = v2.heap.size + 1 := by omega
  have en_L_2_1 : ¬ v2.heap.size + 1 = lv := by omega
  have hl_O_2 := isRow.lt O_2
  have ne_O_2_0 : ¬ ob = v2.heap.size := by omega
  have en_O_2_0 : ¬ v2.heap.size = ob := by omega
  have ne_O_2_1 : ¬ ob = v2.heap.size + 1 := by omega
  have en_O_2_1 : ¬ v2.heap.size + 1 = ob := by omega
  have hl_F_2 := isRow.lt F_2
  have ne_F_2_0 : ¬ v1.heap.size = v2.heap.size := by omega
  have en_F_2_0 : ¬ v2.heap.size = v1.heap.size := by omega
  have ne_F_2_1 : ¬ v1.heap.size = v2.heap.size + 1 := by omega
  have en_F_2_1 : ¬ v2.heap.size + 1 = v1.heap.size := by omega
  go_wp2_with fail
  have ne_V_E : ¬ gv = v2.heap.size := by omega
  have en_V_E : ¬ v2.heap.size = gv := by omega
  have ne_L_E : ¬ lv = v2.heap.size := by omega
  have en_L_E : ¬ v2.heap.size = lv := by omega
  have ne_O_E : ¬ ob = v2.heap.size := by omega
  have en_O_E : ¬ v2.heap.size = ob := by omega
  have ne_F_E : ¬ v1.heap.size = v2.heap.size := by omega
  have en_F_E : ¬ v2.heap.size = v1.heap.size := by omega
  refine wp_named (fun W_ => (isRow W_ gv ∧ rowAt W_ gv = #[.int .i64 m, .int .i64 p0, .int .i64 p1, .bool o0, .bool o1, .bool sp, .int .u32 a, .int .u32 b, .slice (some ⟨lv, 0, none⟩) ys.length ys.length, .int .i64 lost]) ∧ (isRow W_ lv ∧ rowAt W_ lv = (FA ys)) ∧ (isRow W_ ob ∧ rowAt W_ ob = csO) ∧ (isRow W_ v1.heap.size ∧ rowAt W_ v1.heap.size = #[.int .i64 m, .int .i64 p0, .int .i64 p1, .bool o0, .bool o1, .bool sp, .int .u32 a, .int .u32 b]) ∧ (isRow W_ v2.heap.size ∧ rowAt W_ v2.heap.size = #[.bool false, .int .i64 (-1)]) ∧ Below w.heap.size w W_) (by refine ⟨⟨by go_simp, by go_simp⟩, ⟨by go_simp, by go_simp⟩, ⟨by go_simp, by go_simp⟩, ⟨by go_simp, by go_simp⟩, ⟨by go_simp, by go_simp⟩, by go_simp⟩) ?_
  rintro v3 ⟨⟨V_3, V_3'⟩, ⟨L_3, L_3'⟩, ⟨O_3, O_3'⟩, ⟨F_3, F_3'⟩, ⟨E_3, E_3'⟩, hB_3⟩
  clear V_2 V_2' L_2 L_2' O_2 O_2' F_2 F_2' hB_2
  have hz_3 : w.heap.size ≤ v3.heap.size := hB_3.size
  have hl_V_3 := isRow.lt V_3
  have ne_V_3_0 : ¬ gv = v3.heap.size := by omega
  have en_V_3_0 : ¬ v3.heap.size = gv := by omega
  have ne_V_3_1 : ¬ gv = v3.heap.size + 1 := by omega
  have en_V_3_1 : ¬ v3.heap.size + 1 = gv := by omega
  have hl_L_3 := isRow.lt L_3
  have ne_L_3_0 : ¬ lv = v3.heap.size := by omega
  have en_L_3_0 : ¬ v3.heap.size = lv := by omega
  have ne_L_3_1 : ¬ lv = v3.heap.size + 1 := by omega
  have en_L_3_1 : ¬ v3.heap.size + 1 = lv := by omega
  have hl_O_3 := isRow.lt O_3
  have ne_O_3_0 : ¬ ob = v3.heap.size := by omega
  have en_O_3_0 : ¬ v3.heap.size = ob := by omega
  have ne_O_3_1 : ¬ ob = v3.heap.size + 1 := by omega
  have en_O_3_1 : ¬ v3.heap.size + 1 = ob := by omega
  have hl_F_3 := isRow.lt F_3
  have ne_F_3_0 : ¬ v1.heap.size = v3.heap.size := by omega
  have en_F_3_0 : ¬ v3.heap.size = v1.heap.size := by omega
  have ne_F_3_1 : ¬ v1.heap.size = v3.heap.size + 1 := by omega
  have en_F_3_1 : ¬ v3.heap.size + 1 = v1.heap.size := by omega
  have hl_E_3 := isRow.lt E_3
  have ne_E_3_0 : ¬ v2.heap.size = v3.heap.size := by omega
  have en_E_3_0 : ¬ v3.heap.size = v2.heap.size := by omega
  have ne_E_3_1 : ¬ v2.heap.size = v3.heap.size + 1 := by omega
  have en_E_3_1 : ¬ v3.heap.size + 1 = v2.heap.size := by omega
  refine wp_region_held_drew (S := fun w' => isRow w' gv ∧ rowAt w' gv = #[.int .i64 m, .int .i64 p0, .int .i64 p1, .bool o0, .bool o1, .bool sp, .int .u32 a, .int .u32 b, .slice (some ⟨lv, 0, none⟩) ys.length ys.length, .int .i64 lost] ∧ isRow w' lv ∧ rowAt w' lv = (FA ys) ∧ isRow w' ob ∧ rowAt w' ob = csO ∧ isRow w' v1.heap.size ∧ rowAt w' v1.heap.size = #[.int .i64 m, .int .i64 p0, .int .i64 p1, .bool o0, .bool o1, .bool sp, .int .u32 a, .int .u32 b] ∧ isRow w' v2.heap.size ∧ rowAt w' v2.heap.size = #[.bool false, .int .i64 (-1)] ∧ Below w.heap.size w w') (by kernel_rfl) ⟨V_3, V_3', L_3, L_3', O_3, O_3', F_3, F_3', E_3, E_3', below_drew0 hB_3⟩ (fun hHeld => ?_)
  refine wpAnyH_take (i := 0) (oi := { dst := some 78, op := Op.move (Operand.tmp 15), type := 22, pos := "law.go:305", after := #[], guard := none }) (v := ?_) rfl (by kernel_rfl) (by kernel_rfl) (by kernel_rfl) (fun _ _ _ h => h) (Or.inl ⟨by rfl, ?_⟩) (by assumption) ?_
  rotate_left
  · (intro w_ hS_; (try dsimp only at hS_); go_simp; try with_reducible rfl)
  try simp only [Act.put, List.setIfInBounds_toArray, List.set_cons_zero, List.set_cons_succ]
  refine wpAnyH_take (i := 1) (oi := { dst := some 79, op := Op.move (Operand.tmp 14), type := 24, pos := "law.go:305", after := #[], guard := none }) (v := ?_) rfl (by kernel_rfl) (by kernel_rfl) (by kernel_rfl) (fun _ _ _ h => h) (Or.inl ⟨by rfl, ?_⟩) (by assumption) ?_
  rotate_left
  · (intro w_ hS_; (try dsimp only at hS_); go_simp; try with_reducible rfl)
  try simp only [Act.put, List.setIfInBounds_toArray, List.set_cons_zero, List.set_cons_succ]
  refine wpAnyH_take (i := 2) (oi := { dst := some 80, op := Op.nilCheck (Operand.tmp 79), type := 0, pos := "law.go:305", after := #[{ on := 1, ground := Ground.data }], guard := none }) (v := ?_) rfl (by kernel_rfl) (by kernel_rfl) (by kernel_rfl) (fun _ _ _ h => h) (Or.inl ⟨by rfl, ?_⟩) (by assumption) ?_
  rotate_left
  · (intro w_ hS_; (try dsimp only at hS_); go_simp; try with_reducible rfl)
  try simp only [Act.put, List.setIfInBounds_toArray, List.set_cons_zero, List.set_cons_succ]
  refine wpAnyH_take (i := 3) (oi := { dst := some 81, op := Op.fieldAddr 37 (Operand.tmp 80) 1, type := 0, pos := "law.go:305", after := #[{ on := 2, ground := Ground.data }], guard := none }) (v := ?_) rfl (by kernel_rfl) (by kernel_rfl) (by kernel_rfl) (fun _ _ _ h => h) (Or.inl ⟨by rfl, ?_⟩) (by assumption) ?_
  rotate_left
  · (intro w_ hS_; (try dsimp only at hS_); go_simp; try with_reducible rfl)
  try simp only [Act.put, List.setIfInBounds_toArray, List.set_cons_zero, List.set_cons_succ]
  refine wpAnyH_take (i := 4) (oi := { dst := some 82, op := Op.load 22 (Operand.tmp 81), type := 22, pos := "law.go:305", after := #[{ on := 3, ground := Ground.data }], guard := none }) (v := ?_) rfl (by kernel_rfl) (by kernel_rfl) (by kernel_rfl) (fun _ _ _ h => h) (Or.inl ⟨by rfl, ?_⟩) (by assumption) ?_
  rotate_left
  · (intro w_ hS_; (try dsimp only at hS_); go_simp; try with_reducible rfl)
  try simp only [Act.put, List.setIfInBounds_toArray, List.set_cons_zero, List.set_cons_succ]
  refine wpAnyH_ready (rs := [5]) (by kernel_rfl) (by simp) ?_
  refine AllReadyH.cons (o := { dst := some 83, op := Op.call { callee := Callee.value (Operand.func 21), args := #[Operand.tmp 78, Operand.tmp 82], argTypes := #[22, 22] }, type := 4, pos := "law.go:305", after := #[{ on := 0, ground := Ground.data }, { on := 4, ground := Ground.data }], guard := none }) rfl (fun K hK => ?_) AllReadyH.nil
  go_simp
  (have hq_ := hHeld; (try dsimp only at hq_); go_split_ands)
  refine (same_c h16 (by assumption) (by assumption) hpO hcO (by assumption) (by assumption) (Nat.le_refl _)).mono ?_
  rintro e w4 ⟨rfl, hb⟩
  refine hK.out _ _ ?_ (fun hHeld => ?_)
  · (go_split_ands; exact ⟨rk1 (by assumption) hb, rk2 (by assumption) (by assumption) hb, rk1 (by assumption) hb, rk2 (by assumption) (by assumption) hb, rk1 (by assumption) hb, rk2 (by assumption) (by assumption) hb, rk1 (by assumption) hb, rk2 (by assumption) (by assumption) hb, rk1 (by assumption) hb, rk2 (by assumption) (by assumption) hb, bk (by assumption) (Below.size (by assumption)) hb⟩)
  clear hK K
  try simp only [Act.put, List.setIfInBounds_toArray, List.set_cons_zero, List.set_cons_succ]
  refine wpAnyH_take (i := 6) (oi := { dst := some 84, op := Op.move (Operand.tmp 83), type := 4, pos := "law.go:305", after := #[{ on := 5, ground := Ground.data }, { on := 5, ground := Ground.chain }], guard := none }) (v := ?_) rfl (by kernel_rfl) (by kernel_rfl) (by kernel_rfl) (fun _ _ _ h => h) (Or.inl ⟨by rfl, ?_⟩) (by assumption) ?_
  rotate_left
  · (intro w_ hS_; (try dsimp only at hS_); go_simp; try with_reducible rfl)
  try simp only [Act.put, List.setIfInBounds_toArray, List.set_cons_zero, List.set_cons_succ]
  refine wpAnyH_take (i := 7) (oi := { dst := some 85, op := Op.load 57 (Operand.tmp 18), type := 57, pos := "law.go:305", after := #[{ on := 6, ground := Ground.guard }], guard := some (6, true) }) (v := ?_) rfl (by kernel_rfl) (by kernel_rfl) (by kernel_rfl) (fun _ _ _ h => h) (Or.inl ⟨by rfl, ?_⟩) (by assumption) ?_
  rotate_left
  · (intro w_ hS_; (try dsimp only at hS_); go_simp; try with_reducible rfl)
  try simp only [Act.put, List.setIfInBounds_toArray, List.set_cons_zero, List.set_cons_succ]
  refine wpAnyH_take (i := 8) (oi := { dst := some 86, op := Op.build 57 #[(1, Operand.const (Value.int IntKind.i64 (-1)))], type := 57, pos := "law.go:305", after := #[{ on := 6, ground := Ground.guard }], guard := some (6, true) }) (v := ?_) rfl (by kernel_rfl) (by kernel_rfl) (by kernel_rfl) (fun _ _ _ h => h) (Or.inl ⟨by rfl, ?_⟩) (by assumption) ?_
  rotate_left
  · (intro w_ hS_; (try dsimp only at hS_); go_simp; try with_reducible rfl)
  try simp only [Act.put, List.setIfInBounds_toArray, List.set_cons_zero, List.set_cons_succ]
  refine wpAnyH_take (i := 9) (oi := { dst := some 87, op := Op.binOp BinOp.eql 57 (Operand.tmp 85) (Operand.tmp 86) 57, type := 4, pos := "law.go:305", after := #[{ on := 7, ground := Ground.data }, { on := 8, ground := Ground.data }, { on := 6, ground := Ground.guard }], guard := some (6, true) }) (v := ?_) rfl (by kernel_rfl) (by kernel_rfl) (by kernel_rfl) (fun _ _ _ h => h) (Or.inl ⟨by rfl, ?_⟩) (by assumption) ?_
  rotate_left
  · (intro w_ hS_; (try dsimp only at hS_); go_simp; try with_reducible rfl)
  try simp only [Act.put, List.setIfInBounds_toArray, List.set_cons_zero, List.set_cons_succ]
  refine wpAnyH_take (i := 10) (oi := { dst := some 88, op := Op.pick (Operand.tmp 84) (Operand.tmp 87) (Operand.const (Value.bool false)), type := 4, pos := "law.go:305", after := #[{ on := 6, ground := Ground.data }, { on := 9, ground := Ground.data }], guard := none }) (v := ?_) rfl (by kernel_rfl) (by kernel_rfl) (by kernel_rfl) (fun _ _ _ h => h) (Or.inl ⟨by rfl, ?_⟩) (by assumption) ?_
  rotate_left
  · (intro w_ hS_; (try dsimp only at hS_); go_simp; try with_reducible rfl)
  try simp only [Act.put, List.setIfInBounds_toArray, List.set_cons_zero, List.set_cons_succ]
  refine wpAnyH_take (i := 11) (oi := { dst := some 89, op := Op.move (Operand.tmp 88), type := 4, pos := "law.go:305", after := #[{ on := 10, ground := Ground.data }, { on := 6, ground := Ground.chain }], guard := none }) (v := ?_) rfl (by kernel_rfl) (by kernel_rfl) (by kernel_rfl) (fun _ _ _ h => h) (Or.inl ⟨by rfl, ?_⟩) (by assumption) ?_
  rotate_left
  · (intro w_ hS_; (try dsimp only at hS_); go_simp; try with_reducible rfl)
  try simp only [Act.put, List.setIfInBounds_toArray, List.set_cons_zero, List.set_cons_succ]
  refine wpAnyH_take (i := 12) (oi := { dst := some 90, op := Op.move (Operand.tmp 4), type := 4, pos := "law.go:305", after := #[{ on := 11, ground := Ground.guard }], guard := some (11, true) }) (v := ?_) rfl (by kernel_rfl) (by kernel_rfl) (by kernel_rfl) (fun _ _ _ h => h) (Or.inl ⟨by rfl, ?_⟩) (by assumption) ?_
  rotate_left
  · (intro w_ hS_; (try dsimp only at hS_); go_simp; try with_reducible rfl)
  try simp only [Act.put, List.setIfInBounds_toArray, List.set_cons_zero, List.set_cons_succ]
  refine wpAnyH_take (i := 13) (oi := { dst := some 91, op := Op.move (Operand.tmp 90), type := 4, pos := "law.go:305", after := #[{ on := 12, ground := Ground.data }, { on := 11, ground := Ground.chain }, { on := 11, ground := Ground.guard }], guard := some (11, true) }) (v := ?_) rfl (by kernel_rfl) (by kernel_rfl) (by kernel_rfl) (fun _ _ _ h => h) (Or.inl ⟨by rfl, ?_⟩) (by assumption) ?_
  rotate_left
  · (intro w_ hS_; (try dsimp only at hS_); go_simp; try with_reducible rfl)
  try simp only [Act.put, List.setIfInBounds_toArray, List.set_cons_zero, List.set_cons_succ]
  refine wpAnyH_take (i := 14) (oi := { dst := some 92, op := Op.move (Operand.tmp 19), type := 4, pos := "law.go:305", after := #[{ on := 13, ground := Ground.guard }], guard := some (13, true) }) (v := undef) rfl (by kernel_rfl) (by kernel_rfl) (by kernel_rfl) (fun _ _ _ h => h) (Or.inr ⟨by rfl, rfl⟩) (by assumption) ?_
  try simp only [Act.put, List.setIfInBounds_toArray, List.set_cons_zero, List.set_cons_succ]
  refine wpAnyH_take (i := 15) (oi := { dst := some 93, op := Op.pick (Operand.tmp 91) (Operand.tmp 92) (Operand.const (Value.bool false)), type := 4, pos := "law.go:305", after := #[{ on := 13, ground := Ground.data }, { on := 14, ground := Ground.data }, { on := 11, ground := Ground.guard }], guard := some (11, true) }) (v := ?_) rfl (by kernel_rfl) (by kernel_rfl) (by kernel_rfl) (fun _ _ _ h => h) (Or.inl ⟨by rfl, ?_⟩) (by assumption) ?_
  rotate_left
  · (intro w_ hS_; (try dsimp only at hS_); go_simp; try with_reducible rfl)
  try simp only [Act.put, List.setIfInBounds_toArray, List.set_cons_zero, List.set_cons_succ]
  refine wpAnyH_take (i := 16) (oi := { dst := some 94, op := Op.move (Operand.tmp 93), type := 4, pos := "law.go:305", after := #[{ on := 15, ground := Ground.data }, { on := 13, ground := Ground.chain }, { on := 11, ground := Ground.guard }], guard := some (11, true) }) (v := ?_) rfl (by kernel_rfl) (by kernel_rfl) (by kernel_rfl) (fun _ _ _ h => h) (Or.inl ⟨by rfl, ?_⟩) (by assumption) ?_
  rotate_left
  · (intro w_ hS_; (try dsimp only at hS_); go_simp; try with_reducible rfl)
  try simp only [Act.put, List.setIfInBounds_toArray, List.set_cons_zero, List.set_cons_succ]
  refine wpAnyH_take (i := 17) (oi := { dst := some 95, op := Op.move (Operand.tmp 14), type := 24, pos := "law.go:305", after := #[{ on := 16, ground := Ground.guard }], guard := some (16, false) }) (v := ?_) rfl (by kernel_rfl) (by kernel_rfl) (by kernel_rfl) (fun _ _ _ h => h) (Or.inl ⟨by rfl, ?_⟩) (by assumption) ?_
  rotate_left
  · (intro w_ hS_; (try dsimp only at hS_); go_simp; try with_reducible rfl)
  try simp only [Act.put, List.setIfInBounds_toArray, List.set_cons_zero, List.set_cons_succ]
  refine wpAnyH_take (i := 18) (oi := { dst := some 96, op := Op.nilCheck (Operand.tmp 95), type := 0, pos := "law.go:305", after := #[{ on := 17, ground := Ground.data }, { on := 16, ground := Ground.guard }], guard := some (16, false) }) (v := ?_) rfl (by kernel_rfl) (by kernel_rfl) (by kernel_rfl) (fun _ _ _ h => h) (Or.inl ⟨by rfl, ?_⟩) (by assumption) ?_
  rotate_left
  · (intro w_ hS_; (try dsimp only at hS_); go_simp; try with_reducible rfl)
  try simp only [Act.put, List.setIfInBounds_toArray, List.set_cons_zero, List.set_cons_succ]
  refine wpAnyH_take (i := 19) (oi := { dst := some 97, op := Op.fieldAddr 37 (Operand.tmp 96) 0, type := 0, pos := "law.go:305", after := #[{ on := 18, ground := Ground.data }, { on := 16, ground := Ground.guard }], guard := some (16, false) }) (v := ?_) rfl (by kernel_rfl) (by kernel_rfl) (by kernel_rfl) (fun _ _ _ h => h) (Or.inl ⟨by rfl, ?_⟩) (by assumption) ?_
  rotate_left
  · (intro w_ hS_; (try dsimp only at hS_); go_simp; try with_reducible rfl)
  try simp only [Act.put, List.setIfInBounds_toArray, List.set_cons_zero, List.set_cons_succ]
  refine wpAnyH_take (i := 20) (oi := { dst := some 98, op := Op.load 35 (Operand.tmp 97), type := 35, pos := "law.go:305", after := #[{ on := 19, ground := Ground.data }, { on := 16, ground := Ground.guard }], guard := some (16, false) }) (v := ?_) rfl (by kernel_rfl) (by kernel_rfl) (by kernel_rfl) (fun _ _ _ h => h) (Or.inl ⟨by rfl, ?_⟩) (by assumption) ?_
  rotate_left
  · (intro w_ hS_; (try dsimp only at hS_); go_simp; try with_reducible rfl)
  try simp only [Act.put, List.setIfInBounds_toArray, List.set_cons_zero, List.set_cons_succ]
  refine wpAnyH_take (i := 21) (oi := { dst := some 99, op := Op.load 35 (Operand.tmp 16), type := 35, pos := "law.go:305", after := #[{ on := 16, ground := Ground.guard }], guard := some (16, false) }) (v := ?_) rfl (by kernel_rfl) (by kernel_rfl) (by kernel_rfl) (fun _ _ _ h => h) (Or.inl ⟨by rfl, ?_⟩) (by assumption) ?_
  rotate_left
  · (intro w_ hS_; (try dsimp only at hS_); go_simp; try with_reducible rfl)
  try simp only [Act.put, List.setIfInBounds_toArray, List.set_cons_zero, List.set_cons_succ]
  refine wpAnyH_take (i := 22) (oi := { dst := some 100, op := Op.binOp BinOp.eql 35 (Operand.tmp 98) (Operand.tmp 99) 35, type := 4, pos := "law.go:305", after := #[{ on := 20, ground := Ground.data }, { on := 21, ground := Ground.data }, { on := 16, ground := Ground.guard }], guard := some (16, false) }) (v := ?_) rfl (by kernel_rfl) (by kernel_rfl) (by kernel_rfl) (fun _ _ _ h => h) (Or.inl ⟨by rfl, ?_⟩) (by assumption) ?_
  rotate_left
  · (intro w_ hS_; (try dsimp only at hS_); go_simp; try with_reducible rfl)
  try simp only [Act.put, List.setIfInBounds_toArray, List.set_cons_zero, List.set_cons_succ]
  refine wpAnyH_take (i := 23) (oi := { dst := some 101, op := Op.pick (Operand.tmp 94) (Operand.const (Value.bool true)) (Operand.tmp 100), type := 4, pos := "law.go:305", after := #[{ on := 16, ground := Ground.data }, { on := 22, ground := Ground.data }, { on := 11, ground := Ground.guard }], guard := some (11, true) }) (v := ?_) rfl (by kernel_rfl) (by kernel_rfl) (by kernel_rfl) (fun _ _ _ h => h) (Or.inl ⟨by rfl, ?_⟩) (by assumption) ?_
  rotate_left
  · (intro w_ hS_; (try dsimp only at hS_); go_simp; try with_reducible rfl)
  try simp only [Act.put, List.setIfInBounds_toArray, List.set_cons_zero, List.set_cons_succ]
  refine wpAnyH_take (i := 24) (oi := { dst := some 102, op := Op.pick (Operand.tmp 89) (Operand.tmp 101) (Operand.const (Value.bool false)), type := 4, pos := "law.go:305", after := #[{ on := 11, ground := Ground.data }, { on := 23, ground := Ground.data }], guard := none }) (v := ?_) rfl (by kernel_rfl) (by kernel_rfl) (by kernel_rfl) (fun _ _ _ h => h) (Or.inl ⟨by rfl, ?_⟩) (by assumption) ?_
  rotate_left
  · (intro w_ hS_; (try dsimp only at hS_); go_simp; try with_reducible rfl)
  try simp only [Act.put, List.setIfInBounds_toArray, List.set_cons_zero, List.set_cons_succ]
  refine wpAnyH_take (i := 25) (oi := { dst := some 103, op := Op.move (Operand.tmp 102), type := 4, pos := "law.go:305", after := #[{ on := 24, ground := Ground.data }, { on := 16, ground := Ground.chain }], guard := none }) (v := ?_) rfl (by kernel_rfl) (by kernel_rfl) (by kernel_rfl) (fun _ _ _ h => h) (Or.inl ⟨by rfl, ?_⟩) (by assumption) ?_
  rotate_left
  · (intro w_ hS_; (try dsimp only at hS_); go_simp; try with_reducible rfl)
  try simp only [Act.put, List.setIfInBounds_toArray, List.set_cons_zero, List.set_cons_succ]
  refine wpAnyH_take (i := 26) (oi := { dst := some 104, op := Op.move (Operand.tmp 19), type := 4, pos := "law.go:305", after := #[{ on := 25, ground := Ground.guard }], guard := some (25, true) }) (v := ?_) rfl (by kernel_rfl) (by kernel_rfl) (by kernel_rfl) (fun _ _ _ h => h) (Or.inl ⟨by rfl, ?_⟩) (by assumption) ?_
  rotate_left
  · (intro w_ hS_; (try dsimp only at hS_); go_simp; try with_reducible rfl)
  try simp only [Act.put, List.setIfInBounds_toArray, List.set_cons_zero, List.set_cons_succ]
  refine wpAnyH_take (i := 27) (oi := { dst := some 105, op := Op.move (Operand.tmp 104), type := 4, pos := "law.go:305", after := #[{ on := 26, ground := Ground.data }, { on := 25, ground := Ground.chain }, { on := 25, ground := Ground.guard }], guard := some (25, true) }) (v := ?_) rfl (by kernel_rfl) (by kernel_rfl) (by kernel_rfl) (fun _ _ _ h => h) (Or.inl ⟨by rfl, ?_⟩) (by assumption) ?_
  rotate_left
  · (intro w_ hS_; (try dsimp only at hS_); go_simp; try with_reducible rfl)
  try simp only [Act.put, List.setIfInBounds_toArray, List.set_cons_zero, List.set_cons_succ]
  refine wpAnyH_take (i := 28) (oi := { dst := some 106, op := Op.move (Operand.tmp 4), type := 4, pos := "law.go:305", after := #[{ on := 27, ground := Ground.guard }], guard := some (27, false) }) (v := undef) rfl (by kernel_rfl) (by kernel_rfl) (by kernel_rfl) (fun _ _ _ h => h) (Or.inr ⟨by rfl, rfl⟩) (by assumption) ?_
  try simp only [Act.put, List.setIfInBounds_toArray, List.set_cons_zero, List.set_cons_succ]
  refine wpAnyH_take (i := 29) (oi := { dst := some 107, op := Op.unOp UnOp.not 4 (Operand.tmp 106), type := 4, pos := "law.go:305", after := #[{ on := 28, ground := Ground.data }, { on := 27, ground := Ground.guard }], guard := some (27, false) }) (v := undef) rfl (by kernel_rfl) (by kernel_rfl) (by kernel_rfl) (fun _ _ _ h => h) (Or.inr ⟨by rfl, rfl⟩) (by assumption) ?_
  try simp only [Act.put, List.setIfInBounds_toArray, List.set_cons_zero, List.set_cons_succ]
  refine wpAnyH_take (i := 30) (oi := { dst := some 108, op := Op.pick (Operand.tmp 105) (Operand.const (Value.bool true)) (Operand.tmp 107), type := 4, pos := "law.go:305", after := #[{ on := 27, ground := Ground.data }, { on := 29, ground := Ground.data }, { on := 25, ground := Ground.guard }], guard := some (25, true) }) (v := ?_) rfl (by kernel_rfl) (by kernel_rfl) (by kernel_rfl) (fun _ _ _ h => h) (Or.inl ⟨by rfl, ?_⟩) (by assumption) ?_
  rotate_left
  · (intro w_ hS_; (try dsimp only at hS_); go_simp; try with_reducible rfl)
  try simp only [Act.put, List.setIfInBounds_toArray, List.set_cons_zero, List.set_cons_succ]
  refine wpAnyH_take (i := 31) (oi := { dst := some 109, op := Op.move (Operand.tmp 108), type := 4, pos := "law.go:305", after := #[{ on := 30, ground := Ground.data }, { on := 27, ground := Ground.chain }, { on := 25, ground := Ground.guard }], guard := some (25, true) }) (v := ?_) rfl (by kernel_rfl) (by kernel_rfl) (by kernel_rfl) (fun _ _ _ h => h) (Or.inl ⟨by rfl, ?_⟩) (by assumption) ?_
  rotate_left
  · (intro w_ hS_; (try dsimp only at hS_); go_simp; try with_reducible rfl)
  try simp only [Act.put, List.setIfInBounds_toArray, List.set_cons_zero, List.set_cons_succ]
  refine wpAnyH_take (i := 32) (oi := { dst := some 110, op := Op.buildSlice 71 3 #[(0, Operand.const (Value.int IntKind.i64 6)), (1, Operand.const (Value.int IntKind.i64 7)), (2, Operand.const (Value.int IntKind.i64 8))], type := 71, pos := "law.go:305", after := #[{ on := 31, ground := Ground.guard }], guard := some (31, false) }) (v := undef) rfl (by kernel_rfl) (by kernel_rfl) (by kernel_rfl) (fun _ _ _ h => h) (Or.inr ⟨by rfl, rfl⟩) (by assumption) ?_
  try simp only [Act.put, List.setIfInBounds_toArray, List.set_cons_zero, List.set_cons_succ]
  refine wpAnyH_take (i := 33) (oi := { dst := some 111, op := Op.move (Operand.tmp 3), type := 66, pos := "law.go:305", after := #[{ on := 31, ground := Ground.guard }], guard := some (31, false) }) (v := undef) rfl (by kernel_rfl) (by kernel_rfl) (by kernel_rfl) (fun _ _ _ h => h) (Or.inr ⟨by rfl, rfl⟩) (by assumption) ?_
  try simp only [Act.put, List.setIfInBounds_toArray, List.set_cons_zero, List.set_cons_succ]
  refine wpAnyH_take (i := 34) (oi := { dst := some 112, op := Op.call { callee := Callee.value (Operand.func 29), args := #[Operand.tmp 110, Operand.tmp 111], argTypes := #[71, 3] }, type := 4, pos := "law.go:305", after := #[{ on := 32, ground := Ground.data }, { on := 33, ground := Ground.data }, { on := 31, ground := Ground.chain }, { on := 31, ground := Ground.guard }], guard := some (31, false) }) (v := undef) rfl (by kernel_rfl) (by kernel_rfl) (by kernel_rfl) (fun _ _ _ h => h) (Or.inr ⟨by rfl, rfl⟩) (by assumption) ?_
  try simp only [Act.put, List.setIfInBounds_toArray, List.set_cons_zero, List.set_cons_succ]
  refine wpAnyH_take (i := 35) (oi := { dst := some 113, op := Op.unOp UnOp.not 4 (Operand.tmp 112), type := 4, pos := "law.go:305", after := #[{ on := 34, ground := Ground.data }, { on := 31, ground := Ground.guard }], guard := some (31, false) }) (v := undef) rfl (by kernel_rfl) (by kernel_rfl) (by kernel_rfl) (fun _ _ _ h => h) (Or.inr ⟨by rfl, rfl⟩) (by assumption) ?_
  try simp only [Act.put, List.setIfInBounds_toArray, List.set_cons_zero, List.set_cons_succ]
  refine wpAnyH_take (i := 36) (oi := { dst := some 114, op := Op.pick (Operand.tmp 109) (Operand.const (Value.bool true)) (Operand.tmp 113), type := 4, pos := "law.go:305", after := #[{ on := 31, ground := Ground.data }, { on := 35, ground := Ground.data }, { on := 25, ground := Ground.guard }], guard := some (25, true) }) (v := ?_) rfl (by kernel_rfl) (by kernel_rfl) (by kernel_rfl) (fun _ _ _ h => h) (Or.inl ⟨by rfl, ?_⟩) (by assumption) ?_
  rotate_left
  · (intro w_ hS_; (try dsimp only at hS_); go_simp; try with_reducible rfl)
  try simp only [Act.put, List.setIfInBounds_toArray, List.set_cons_zero, List.set_cons_succ]
  refine wpAnyH_take (i := 37) (oi := { dst := some 115, op := Op.pick (Operand.tmp 103) (Operand.tmp 114) (Operand.const (Value.bool false)), type := 4, pos := "law.go:305", after := #[{ on := 25, ground := Ground.data }, { on := 36, ground := Ground.data }], guard := none }) (v := ?_) rfl (by kernel_rfl) (by kernel_rfl) (by kernel_rfl) (fun _ _ _ h => h) (Or.inl ⟨by rfl, ?_⟩) (by assumption) ?_
  rotate_left
  · (intro w_ hS_; (try dsimp only at hS_); go_simp; try with_reducible rfl)
  try simp only [Act.put, List.setIfInBounds_toArray, List.set_cons_zero, List.set_cons_succ]
  refine wpAnyH_take (i := 38) (oi := { dst := some 12, op := Op.assign (Operand.tmp 115), type := 4, pos := "law.go:305", after := #[{ on := 37, ground := Ground.data }, { on := 34, ground := Ground.chain }, { on := 0, ground := Ground.phase }, { on := 1, ground := Ground.phase }, { on := 2, ground := Ground.phase }, { on := 3, ground := Ground.phase }, { on := 4, ground := Ground.phase }, { on := 5, ground := Ground.phase }, { on := 6, ground := Ground.phase }, { on := 7, ground := Ground.phase }, { on := 8, ground := Ground.phase }, { on := 9, ground := Ground.phase }, { on := 10, ground := Ground.phase }, { on := 11, ground := Ground.phase }, { on := 12, ground := Ground.phase }, { on := 13, ground := Ground.phase }, { on := 14, ground := Ground.phase }, { on := 15, ground := Ground.phase }, { on := 16, ground := Ground.phase }, { on := 17, ground := Ground.phase }, { on := 18, ground := Ground.phase }, { on := 19, ground := Ground.phase }, { on := 20, ground := Ground.phase }, { on := 21, ground := Ground.phase }, { on := 22, ground := Ground.phase }, { on := 23, ground := Ground.phase }, { on := 24, ground := Ground.phase }, { on := 25, ground := Ground.phase }, { on := 26, ground := Ground.phase }, { on := 27, ground := Ground.phase }, { on := 28, ground := Ground.phase }, { on := 29, ground := Ground.phase }, { on := 30, ground := Ground.phase }, { on := 31, ground := Ground.phase }, { on := 32, ground := Ground.phase }, { on := 33, ground := Ground.phase }, { on := 34, ground := Ground.phase }, { on := 35, ground := Ground.phase }, { on := 36, ground := Ground.phase }, { on := 37, ground := Ground.phase }], guard := none }) (v := ?_) rfl (by kernel_rfl) (by kernel_rfl) (by kernel_rfl) (fun _ _ _ h => h) (Or.inl ⟨by rfl, ?_⟩) (by assumption) ?_
  rotate_left
  · (intro w_ hS_; (try dsimp only at hS_); go_simp; try with_reducible rfl)
  try simp only [Act.put, List.setIfInBounds_toArray, List.set_cons_zero, List.set_cons_succ]
  refine wpAnyH_done (by kernel_rfl) ?_ _
  (try dsimp only at hHeld)
  go_split_ands
  go_wp2
  go_ret
  exact ⟨rfl, by assumption⟩
set_option maxRecDepth 100000 in
set_option maxHeartbeats 4000000 in
theorem reads_af (c : Int) (c0 : 0 ≤ c) (m' p0' p1' : Int) (o0' o1' sp' : Bool) (a' b' : Int) (ha : 0 ≤ a') (ha2 : a' ≤ 4294967295) (hb : 0 ≤ b') (hb2 : b' ≤ 4294967295) (w : World) (B : Option Addr) (cB : Nat) (sc : List VA) (hS : ScOk w B sc) (r x : Int) (N : VS → Int) (hdo : ∀ s : VS, doV s r false x = (s, ⟨N s, false, -1, false⟩)) (e1 : (r == 1) = false) (e2 : (r == 2) = false) :
    Calls Try.prog 8 #[.int .u8 c, .agg #[.int .i64 m', .int .i64 p0', .int .i64 p1', .bool o0', .bool o1', .bool sp', .int .u32 a', .int .u32 b'], .slice B sc.length cB, .int .i64 r, .bool false, .int .u64 x] w fun e w' => e = .returned (.bool true) ∧ Below w.heap.size w w' := by
  obtain ⟨n, hn, h1, h2⟩ : ∃ n : Nat, 1 + c % 16 = (n : Int) ∧ 1 ≤ n ∧ n ≤ 16 := ⟨(1 + c % 16).toNat, by omega, by omega, by omega⟩
  have hO := (runA_ok n ⟨m', p0', p1', o0', o1', sp', a', b', List.replicate n z54, 0⟩ sc ⟨List.length_replicate, h2, by omega, rep_st n, Int.le_refl 0, by show (0 : Int) ≤ 4611686018427387904; omega⟩ rfl hS.len) sc.length (Nat.le_refl _)
  have HP := Lib.hid (fun (W : World) (h : ScOk W B sc) => played_c n h1 h2 c hn c0 m' p0' p1' o0' o1' sp' a' b' ha ha2 hb hb2 W B cB sc h)
  have HS := Lib.hid hS
  clear hS
  generalize runA n ⟨m', p0', p1', o0', o1', sp', a', b', List.replicate n z54, 0⟩ sc sc.length = s at *
  obtain ⟨⟨hlen, h16, h0, hst, hlo, hhi⟩, -⟩ := hO
  obtain ⟨m, p0, p1, o0, o1, sp, a, b, ys, lost⟩ := s
  simp only at hlen hst hlo hhi
  subst hlen
  go_enter Try.func8, Try.ntmps8
  have hB_0 : Below w.heap.size w w := Below.refl _ _
  go_wp2_with fail
  refine (awake_c _).mono ?_
  rintro e v1 ⟨rfl, hb1⟩
  obtain ⟨F_1, F_1'⟩ : Row v1 w.heap.size #[.int .i64 m', .int .i64 p0', .int .i64 p1', .bool o0', .bool o1', .bool sp', .int .u32 a', .int .u32 b'] := Row.step (by go_simp) (by go_simp) hb1
  have hB_1 : Below w.heap.size w v1 := bk (by go_simp) (by first | (go_simp; done) | (go_simp; omega) | exact Below.size (by assumption)) hb1
  clear hB_0 hb1
  have hz_1 : w.heap.size ≤ v1.heap.size := hB_1.size
  have hl_F_1 := isRow.lt F_1
  have ne_F_1_0 : ¬ w.heap.size = v1.heap.size := by omega
  have en_F_1_0 : ¬ v1.heap.size = w.heap.size := by omega
  have ne_F_1_1 : ¬ w.heap.size = v1.heap.size + 1 := by omega
  have en_F_1_1 : ¬ v1.heap.size + 1 = w.heap.size := by omega
  go_wp2_with fail
  refine (HP.out _ (HS.out.below hB_1)).mono ?_
  rintro e v0 ⟨gv, lv, rfl, hV0, hL0, n12, g1, g2, hb0⟩
  obtain ⟨V0, V0'⟩ : Row v0 gv #[.int .i64 m, .int .i64 p0, .int .i64 p1, .bool o0, .bool o1, .bool sp, .int .u32 a, .int .u32 b, .slice (some ⟨lv, 0, none⟩) ys.length ys.length, .int .i64 lost] := hV0
  obtain ⟨L0, L0'⟩ : Row v0 lv (FA ys) := hL0
  have hB0 : Below w.heap.size w v0 := bk hB_1 hB_1.size hb0
  have gw1 : w.heap.size ≤ gv := Nat.le_trans hB_1.size g1
  have gw2 : w.heap.size ≤ lv := Nat.le_trans hB_1.size g2
  have n21 : ¬ lv = gv := fun e => n12 e.symm
  clear hb0 F_1 F_1' hB_1 HP HS g1 g2 hn h1 h2
  have hS : SOk ys.length ⟨m, p0, p1, o0, o1, sp, a, b, ys, lost⟩ := ⟨rfl, h16, h0, hst, hlo, hhi⟩
  obtain ⟨N2, hD⟩ : ∃ N2 : Int, ∀ W, isRow W gv → rowAt W gv = #[.int .i64 m, .int .i64 p0, .int .i64 p1, .bool o0, .bool o1, .bool sp, .int .u32 a, .int .u32 b, .slice (some ⟨lv, 0, none⟩) ys.length ys.length, .int .i64 lost] → isRow W lv → rowAt W lv = FA ys → Calls Try.prog 28 #[.pointer (some ⟨gv, 0, none⟩), .int .i64 r, .bool false, .int .u64 x] W fun e w' => e = .returned (.tuple #[.int .u64 N2, .agg #[.bool false, .int .i64 (-1)], .bool false]) ∧ Row w' gv #[.int .i64 m, .int .i64 p0, .int .i64 p1, .bool o0, .bool o1, .bool sp, .int .u32 a, .int .u32 b, .slice (some ⟨lv, 0, none⟩) ys.length ys.length, .int .i64 lost] ∧ Row w' lv (FA ys) ∧ Aside2 gv lv W w' := ⟨_, fun W q1 q2 q3 q4 => by
    have q := vdo_c ys.length gv lv ⟨m, p0, p1, o0, o1, sp, a, b, ys, lost⟩ hS n12 W q3 q4 q1 q2 r false x
    rw [hdo] at q
    exact q⟩
  have HD := Lib.hid hD
  clear hD
  go_wp2_with (at_builtin; refine Kd.R_append_rows k54 (Rr := k54.K v0) (w0 := v0) v0.heap.size rfl _ _ 22 54 (.agg (enc z54)) 56 rfl Try.underlying22 infoL5 rfl (by decide) (by decide) _ ([] : List S54) ys (some ⟨lv, 0, none⟩) ys.length ys.length (fun _ => True) (fun _ => False) rfl rfl (Kd.R_nil _ _ _ _ _) (fa_kd L0 L0' (by omega)) (fun p cs hp => by rw [k54_open hp]; exact k54_mkM _ _ _ _) (fun _ h => h.elim) (fun _ _ => trivial) (Below.refl _ _) (by simp) (by simp; omega) ?_; intro x_ v1 hR_ hb1 _ _; refine stop_in ?_)
  refine stop_out ?_
  rw [List.nil_append] at hR_
  obtain ⟨ob, cO, csO, rfl, hcO, hob, ⟨O_1, O_1'⟩, hpO⟩ := copied hR_ h0
  clear hR_
  have ne_V_O : ¬ gv = ob := by have := isRow.lt V0; omega
  have en_V_O : ¬ ob = gv := by omega
  have ne_L_O : ¬ lv = ob := by have := isRow.lt L0; omega
  have en_L_O : ¬ ob = lv := by omega
  have hwob : w.heap.size ≤ ob := Nat.le_trans hB0.size hob
  obtain ⟨V_1, V_1'⟩ : Row v1 gv #[.int .i64 m, .int .i64 p0, .int .i64 p1, .bool o0, .bool o1, .bool sp, .int .u32 a, .int .u32 b, .slice (some ⟨lv, 0, none⟩) ys.length ys.length, .int .i64 lost] := Row.step (by go_simp) (by go_simp) hb1
  obtain ⟨L_1, L_1'⟩ : Row v1 lv (FA ys) := Row.step (by go_simp) (by go_simp) hb1
  have hB_1 : Below w.heap.size w v1 := bk (by go_simp) (by first | (go_simp; done) | (go_simp; omega) | exact Below.size (by assumption)) hb1
  clear V0 V0' L0 L0' hB0 hb1
  have hz_1 : w.heap.size ≤ v1.heap.size := hB_1.size
  have hl_V_1 := isRow.lt V_1
  have ne_V_1_0 : ¬ gv = v1.heap.size := by omega
  have en_V_1_0 : ¬ v1.heap.size = gv := by omega
  have ne_V_1_1 : ¬ gv = v1.heap.size + 1 := by omega
  have en_V_1_1 : ¬ v1.heap.size + 1 = gv := by omega
  have hl_L_1 := isRow.lt L_1
  have ne_L_1_0 : ¬ lv = v1.heap.size := by omega
  have en_L_1_0 : ¬ v1.heap.size = lv := by omega
  have ne_L_1_1 : ¬ lv = v1.heap.size + 1 := by omega
  have en_L_1_1 : ¬ v1.heap.size + 1 = lv := by omega
  have hl_O_1 := isRow.lt O_1
  have ne_O_1_0 : ¬ ob = v1.heap.size := by omega
  have en_O_1_0 : ¬ v1.heap.size = ob := by omega
  have ne_O_1_1 : ¬ ob = v1.heap.size + 1 := by omega
  have en_O_1_1 : ¬ v1.heap.size + 1 = ob := by omega
  go_wp2_with fail
  have ne_V_F : ¬ gv = v1.heap.size := by omega
  have en_V_F : ¬ v1.heap.size = gv := by omega
  have ne_L_F : ¬ lv = v1.heap.size := by omega
  have en_L_F : ¬ v1.heap.size = lv := by omega
  have ne_O_F : ¬ ob = v1.heap.size := by omega
  have en_O_F : ¬ v1.heap.size = ob := by omega
  refine (HD.out _ (by go_simp) (by go_simp) (by go_simp) (by go_simp)).mono ?_
  rintro e v2 ⟨rfl, ⟨V_2, V_2'⟩, ⟨L_2, L_2'⟩, hA2⟩
  obtain ⟨O_2, O_2'⟩ : Row v2 ob csO := hA2.row ⟨by go_simp, by go_simp⟩ (by omega) (by omega)
  obtain ⟨F_2, F_2'⟩ : Row v2 v1.heap.size #[.int .i64 m, .int .i64 p0, .int .i64 p1, .bool o0, .bool o1, .bool sp, .int .u32 a, .int .u32 b] := hA2.row ⟨by go_simp, by go_simp⟩ (by omega) (by omega)
  have hB_2 : Below w.heap.size w v2 := hA2.below (by go_simp) (by first | omega | (go_simp; done) | (go_simp; omega)) (by first | omega | (go_simp; done) | (go_simp; omega)) (by first | (go_simp; done) | (go_simp; omega) | exact Below.size (by assumption))
  clear V_1 V_1' L_1 L_1' O_1 O_1' hB_1 hA2
  have hz_2 : w.heap.size ≤ v2.heap.size := hB_2.size
  have hl_V_2 := isRow.lt V_2
  have ne_V_2_0 : ¬ gv = v2.heap.size := by omega
  have en_V_2_0 : ¬ v2.heap.size = gv := by omega
  have ne_V_2_1 : ¬ gv = v2.heap.size + 1 := by omega
  have en_V_2_1 : ¬ v2.heap.size + 1 = gv := by omega
  have hl_L_2 := isRow.lt L_2
  have ne_L_2_0 : ¬ lv = v2.heap.size := by omega
  have en_L_2_0 : ¬ v2.heap.size = lv := by omega
  have ne_L_2_1 : ¬ lv = v2.heap.size + 1 := by omega
  have en_L_2_1 : ¬ v2.heap.size + 1 = lv := by omega
  have hl_O_2 := isRow.lt O_2
  have ne_O_2_0 : ¬ ob = v2.heap.size := by omega
  have en_O_2_0 : ¬ v2.heap.size = ob := by omega
  have ne_O_2_1 : ¬ ob = v2.heap.size + 1 := by omega
  have en_O_2_1 : ¬ v2.heap.size + 1 = ob := by omega
  have hl_F_2 := isRow.lt F_2
  have ne_F_2_0 : ¬ v1.heap.size = v2.heap.size := by omega
  have en_F_2_0 : ¬ v2.heap.size = v1.heap.size := by omega
  have ne_F_2_1 : ¬ v1.heap.size = v2.heap.size + 1 := by omega
  have en_F_2_1 : ¬ v2.heap.size + 1 = v1.heap.size := by omega
  go_wp2_with fail
  have ne_V_E : ¬ gv = v2.heap.size := by omega
  have en_V_E : ¬ v2.heap.size = gv := by omega
  have ne_L_E : ¬ lv = v2.heap.size := by omega
  have en_L_E : ¬ v2.heap.size = lv := by omega
  have ne_O_E : ¬ ob = v2.heap.size := by omega
  have en_O_E : ¬ v2.heap.size = ob := by omega
  have ne_F_E : ¬ v1.heap.size = v2.heap.size := by omega
  have en_F_E : ¬ v2.heap.size = v1.heap.size := by omega
  refine wp_named (fun W_ => (isRow W_ gv ∧ rowAt W_ gv = #[.int .i64 m, .int .i64 p0, .int .i64 p1, .bool o0, .bool o1, .bool sp, .int .u32 a, .int .u32 b, .slice (some ⟨lv, 0, none⟩) ys.length ys.length, .int .i64 lost]) ∧ (isRow W_ lv ∧ rowAt W_ lv = (FA ys)) ∧ (isRow W_ ob ∧ rowAt W_ ob = csO) ∧ (isRow W_ v1.heap.size ∧ rowAt W_ v1.heap.size = #[.int .i64 m, .int .i64 p0, .int .i64 p1, .bool o0, .bool o1, .bool sp, .int .u32 a, .int .u32 b]) ∧ (isRow W_ v2.heap.size ∧ rowAt W_ v2.heap.size = #[.bool false, .int .i64 (-1)]) ∧ Below w.heap.size w W_) (by refine ⟨⟨by go_simp, by go_simp⟩, ⟨by go_simp, by go_simp⟩, ⟨by go_simp, by go_simp⟩, ⟨by go_simp, by go_simp⟩, ⟨by go_simp, by go_simp⟩, by go_simp⟩) ?_
  rintro v3 ⟨⟨V_3, V_3'⟩, ⟨L_3, L_3'⟩, ⟨O_3, O_3'⟩, ⟨F_3, F_3'⟩, ⟨E_3, E_3'⟩, hB_3⟩
  clear V_2 V_2' L_2 L_2' O_2 O_2' F_2 F_2' hB_2
  have hz_3 : w.heap.size ≤ v3.heap.size := hB_3.size
  have hl_V_3 := isRow.lt V_3
  have ne_V_3_0 : ¬ gv = v3.heap.size := by omega
  have en_V_3_0 : ¬ v3.heap.size = gv := by omega
  have ne_V_3_1 : ¬ gv = v3.heap.size + 1 := by omega
  have en_V_3_1 : ¬ v3.heap.size + 1 = gv := by omega
  have hl_L_3 := isRow.lt L_3
  have ne_L_3_0 : ¬ lv = v3.heap.size := by omega
  have en_L_3_0 : ¬ v3.heap.size = lv := by omega
  have ne_L_3_1 : ¬ lv = v3.heap.size + 1 := by omega
  have en_L_3_1 : ¬ v3.heap.size + 1 = lv := by omega
  have hl_O_3 := isRow.lt O_3
  have ne_O_3_0 : ¬ ob = v3.heap.size := by omega
  have en_O_3_0 : ¬ v3.heap.size = ob := by omega
  have ne_O_3_1 : ¬ ob = v3.heap.size + 1 := by omega
  have en_O_3_1 : ¬ v3.heap.size + 1 = ob := by omega
  have hl_F_3 := isRow.lt F_3
  have ne_F_3_0 : ¬ v1.heap.size = v3.heap.size := by omega
  have en_F_3_0 : ¬ v3.heap.size = v1.heap.size := by omega
  have ne_F_3_1 : ¬ v1.heap.size = v3.heap.size + 1 := by omega
  have en_F_3_1 : ¬ v3.heap.size + 1 = v1.heap.size := by omega
  have hl_E_3 := isRow.lt E_3
  have ne_E_3_0 : ¬ v2.heap.size = v3.heap.size := by omega
  have en_E_3_0 : ¬ v3.heap.size = v2.heap.size := by omega
  have ne_E_3_1 : ¬ v2.heap.size = v3.heap.size + 1 := by omega
  have en_E_3_1 : ¬ v3.heap.size + 1 = v2.heap.size := by omega
  refine wp_region_held_drew (S := fun w' => isRow w' gv ∧ rowAt w' gv = #[.int .i64 m, .int .i64 p0, .int .i64 p1, .bool o0, .bool o1, .bool sp, .int .u32 a, .int .u32 b, .slice (some ⟨lv, 0, none⟩) ys.length ys.length, .int .i64 lost] ∧ isRow w' lv ∧ rowAt w' lv = (FA ys) ∧ isRow w' ob ∧ rowAt w' ob = csO ∧ isRow w' v1.heap.size ∧ rowAt w' v1.heap.size = #[.int .i64 m, .int .i64 p0, .int .i64 p1, .bool o0, .bool o1, .bool sp, .int .u32 a, .int .u32 b] ∧ isRow w' v2.heap.size ∧ rowAt w' v2.heap.size = #[.bool false, .int .i64 (-1)] ∧ Below w.heap.size w w') (by kernel_rfl) ⟨V_3, V_3', L_3, L_3', O_3, O_3', F_3, F_3', E_3, E_3', below_drew0 hB_3⟩ (fun hHeld => ?_)
  refine wpAnyH_take (i := 0) (oi := { dst := some 78, op := Op.move (Operand.tmp 15), type := 22, pos := "law.go:305", after := #[], guard := none }) (v := ?_) rfl (by kernel_rfl) (by kernel_rfl) (by kernel_rfl) (fun _ _ _ h => h) (Or.inl ⟨by rfl, ?_⟩) (by assumption) ?_
  rotate_left
  · (intro w_ hS_; (try dsimp only at hS_); go_simp; try with_reducible rfl)
  try simp only [Act.put, List.setIfInBounds_toArray, List.set_cons_zero, List.set_cons_succ]
  refine wpAnyH_take (i := 1) (oi := { dst := some 79, op := Op.move (Operand.tmp 14), type := 24, pos := "law.go:305", after := #[], guard := none }) (v := ?_) rfl (by kernel_rfl) (by kernel_rfl) (by kernel_rfl) (fun _ _ _ h => h) (Or.inl ⟨by rfl, ?_⟩) (by assumption) ?_
  rotate_left
  · (intro w_ hS_; (try dsimp only at hS_); go_simp; try with_reducible rfl)
  try simp only [Act.put, List.setIfInBounds_toArray, List.set_cons_zero, List.set_cons_succ]
  refine wpAnyH_take (i := 2) (oi := { dst := some 80, op := Op.nilCheck (Operand.tmp 79), type := 0, pos := "law.go:305", after := #[{ on := 1, ground := Ground.data }], guard := none }) (v := ?_) rfl (by kernel_rfl) (by kernel_rfl) (by kernel_rfl) (fun _ _ _ h => h) (Or.inl ⟨by rfl, ?_⟩) (by assumption) ?_
  rotate_left
  · (intro w_ hS_; (try dsimp only at hS_); go_simp; try with_reducible rfl)
  try simp only [Act.put, List.setIfInBounds_toArray, List.set_cons_zero, List.set_cons_succ]
  refine wpAnyH_take (i := 3) (oi := { dst := some 81, op := Op.fieldAddr 37 (Operand.tmp 80) 1, type := 0, pos := "law.go:305", after := #[{ on := 2, ground := Ground.data }], guard := none }) (v := ?_) rfl (by kernel_rfl) (by kernel_rfl) (by kernel_rfl) (fun _ _ _ h => h) (Or.inl ⟨by rfl, ?_⟩) (by assumption) ?_
  rotate_left
  · (intro w_ hS_; (try dsimp only at hS_); go_simp; try with_reducible rfl)
  try simp only [Act.put, List.setIfInBounds_toArray, List.set_cons_zero, List.set_cons_succ]
  refine wpAnyH_take (i := 4) (oi := { dst := some 82, op := Op.load 22 (Operand.tmp 81), type := 22, pos := "law.go:305", after := #[{ on := 3, ground := Ground.data }], guard := none }) (v := ?_) rfl (by kernel_rfl) (by kernel_rfl) (by kernel_rfl) (fun _ _ _ h => h) (Or.inl ⟨by rfl, ?_⟩) (by assumption) ?_
  rotate_left
  · (intro w_ hS_; (try dsimp only at hS_); go_simp; try with_reducible rfl)
  try simp only [Act.put, List.setIfInBounds_toArray, List.set_cons_zero, List.set_cons_succ]
  refine wpAnyH_ready (rs := [5]) (by kernel_rfl) (by simp) ?_
  refine AllReadyH.cons (o := { dst := some 83, op := Op.call { callee := Callee.value (Operand.func 21), args := #[Operand.tmp 78, Operand.tmp 82], argTypes := #[22, 22] }, type := 4, pos := "law.go:305", after := #[{ on := 0, ground := Ground.data }, { on := 4, ground := Ground.data }], guard := none }) rfl (fun K hK => ?_) AllReadyH.nil
  go_simp
  (have hq_ := hHeld; (try dsimp only at hq_); go_split_ands)
  refine (same_c h16 (by assumption) (by assumption) hpO hcO (by assumption) (by assumption) (Nat.le_refl _)).mono ?_
  rintro e w4 ⟨rfl, hb⟩
  refine hK.out _ _ ?_ (fun hHeld => ?_)
  · (go_split_ands; exact ⟨rk1 (by assumption) hb, rk2 (by assumption) (by assumption) hb, rk1 (by assumption) hb, rk2 (by assumption) (by assumption) hb, rk1 (by assumption) hb, rk2 (by assumption) (by assumption) hb, rk1 (by assumption) hb, rk2 (by assumption) (by assumption) hb, rk1 (by assumption) hb, rk2 (by assumption) (by assumption) hb, bk (by assumption) (Below.size (by assumption)) hb⟩)
  clear hK K
  try simp only [Act.put, List.setIfInBounds_toArray, List.set_cons_zero, List.set_cons_succ]
  refine wpAnyH_take (i := 6) (oi := { dst := some 84, op := Op.move (Operand.tmp 83), type := 4, pos := "law.go:305", after := #[{ on := 5, ground := Ground.data }, { on := 5, ground := Ground.chain }], guard := none }) (v := ?_) rfl (by kernel_rfl) (by kernel_rfl) (by kernel_rfl) (fun _ _ _ h => h) (Or.inl ⟨by rfl, ?_⟩) (by assumption) ?_
  rotate_left
  · (intro w_ hS_; (try dsimp only at hS_); go_simp; try with_reducible rfl)
  try simp only [Act.put, List.setIfInBounds_toArray, List.set_cons_zero, List.set_cons_succ]
  refine wpAnyH_take (i := 7) (oi := { dst := some 85, op := Op.load 57 (Operand.tmp 18), type := 57, pos := "law.go:305", after := #[{ on := 6, ground := Ground.guard }], guard := some (6, true) }) (v := ?_) rfl (by kernel_rfl) (by kernel_rfl) (by kernel_rfl) (fun _ _ _ h => h) (Or.inl ⟨by rfl, ?_⟩) (by assumption) ?_
  rotate_left
  · (intro w_ hS_; (try dsimp only at hS_); go_simp; try with_reducible rfl)
  try simp only [Act.put, List.setIfInBounds_toArray, List.set_cons_zero, List.set_cons_succ]
  refine wpAnyH_take (i := 8) (oi := { dst := some 86, op := Op.build 57 #[(1, Operand.const (Value.int IntKind.i64 (-1)))], type := 57, pos := "law.go:305", after := #[{ on := 6, ground := Ground.guard }], guard := some (6, true) }) (v := ?_) rfl (by kernel_rfl) (by kernel_rfl) (by kernel_rfl) (fun _ _ _ h => h) (Or.inl ⟨by rfl, ?_⟩) (by assumption) ?_
  rotate_left
  · (intro w_ hS_; (try dsimp only at hS_); go_simp; try with_reducible rfl)
  try simp only [Act.put, List.setIfInBounds_toArray, List.set_cons_zero, List.set_cons_succ]
  refine wpAnyH_take (i := 9) (oi := { dst := some 87, op := Op.binOp BinOp.eql 57 (Operand.tmp 85) (Operand.tmp 86) 57, type := 4, pos := "law.go:305", after := #[{ on := 7, ground := Ground.data }, { on := 8, ground := Ground.data }, { on := 6, ground := Ground.guard }], guard := some (6, true) }) (v := ?_) rfl (by kernel_rfl) (by kernel_rfl) (by kernel_rfl) (fun _ _ _ h => h) (Or.inl ⟨by rfl, ?_⟩) (by assumption) ?_
  rotate_left
  · (intro w_ hS_; (try dsimp only at hS_); go_simp; try with_reducible rfl)
  try simp only [Act.put, List.setIfInBounds_toArray, List.set_cons_zero, List.set_cons_succ]
  refine wpAnyH_take (i := 10) (oi := { dst := some 88, op := Op.pick (Operand.tmp 84) (Operand.tmp 87) (Operand.const (Value.bool false)), type := 4, pos := "law.go:305", after := #[{ on := 6, ground := Ground.data }, { on := 9, ground := Ground.data }], guard := none }) (v := ?_) rfl (by kernel_rfl) (by kernel_rfl) (by kernel_rfl) (fun _ _ _ h => h) (Or.inl ⟨by rfl, ?_⟩) (by assumption) ?_
  rotate_left
  · (intro w_ hS_; (try dsimp only at hS_); go_simp; try with_reducible rfl)
  try simp only [Act.put, List.setIfInBounds_toArray, List.set_cons_zero, List.set_cons_succ]
  refine wpAnyH_take (i := 11) (oi := { dst := some 89, op := Op.move (Operand.tmp 88), type := 4, pos := "law.go:305", after := #[{ on := 10, ground := Ground.data }, { on := 6, ground := Ground.chain }], guard := none }) (v := ?_) rfl (by kernel_rfl) (by kernel_rfl) (by kernel_rfl) (fun _ _ _ h => h) (Or.inl ⟨by rfl, ?_⟩) (by assumption) ?_
  rotate_left
  · (intro w_ hS_; (try dsimp only at hS_); go_simp; try with_reducible rfl)
  try simp only [Act.put, List.setIfInBounds_toArray, List.set_cons_zero, List.set_cons_succ]
  refine wpAnyH_take (i := 12) (oi := { dst := some 90, op := Op.move (Operand.tmp 4), type := 4, pos := "law.go:305", after := #[{ on := 11, ground := Ground.guard }], guard := some (11, true) }) (v := ?_) rfl (by kernel_rfl) (by kernel_rfl) (by kernel_rfl) (fun _ _ _ h => h) (Or.inl ⟨by rfl, ?_⟩) (by assumption) ?_
  rotate_left
  · (intro w_ hS_; (try dsimp only at hS_); go_simp; try with_reducible rfl)
  try simp only [Act.put, List.setIfInBounds_toArray, List.set_cons_zero, List.set_cons_succ]
  refine wpAnyH_take (i := 13) (oi := { dst := some 91, op := Op.move (Operand.tmp 90), type := 4, pos := "law.go:305", after := #[{ on := 12, ground := Ground.data }, { on := 11, ground := Ground.chain }, { on := 11, ground := Ground.guard }], guard := some (11, true) }) (v := ?_) rfl (by kernel_rfl) (by kernel_rfl) (by kernel_rfl) (fun _ _ _ h => h) (Or.inl ⟨by rfl, ?_⟩) (by assumption) ?_
  rotate_left
  · (intro w_ hS_; (try dsimp only at hS_); go_simp; try with_reducible rfl)
  try simp only [Act.put, List.setIfInBounds_toArray, List.set_cons_zero, List.set_cons_succ]
  refine wpAnyH_take (i := 14) (oi := { dst := some 92, op := Op.move (Operand.tmp 19), type := 4, pos := "law.go:305", after := #[{ on := 13, ground := Ground.guard }], guard := some (13, true) }) (v := undef) rfl (by kernel_rfl) (by kernel_rfl) (by kernel_rfl) (fun _ _ _ h => h) (Or.inr ⟨by rfl, rfl⟩) (by assumption) ?_
  try simp only [Act.put, List.setIfInBounds_toArray, List.set_cons_zero, List.set_cons_succ]
  refine wpAnyH_take (i := 15) (oi := { dst := some 93, op := Op.pick (Operand.tmp 91) (Operand.tmp 92) (Operand.const (Value.bool false)), type := 4, pos := "law.go:305", after := #[{ on := 13, ground := Ground.data }, { on := 14, ground := Ground.data }, { on := 11, ground := Ground.guard }], guard := some (11, true) }) (v := ?_) rfl (by kernel_rfl) (by kernel_rfl) (by kernel_rfl) (fun _ _ _ h => h) (Or.inl ⟨by rfl, ?_⟩) (by assumption) ?_
  rotate_left
  · (intro w_ hS_; (try dsimp only at hS_); go_simp; try with_reducible rfl)
  try simp only [Act.put, List.setIfInBounds_toArray, List.set_cons_zero, List.set_cons_succ]
  refine wpAnyH_take (i := 16) (oi := { dst := some 94, op := Op.move (Operand.tmp 93), type := 4, pos := "law.go:305", after := #[{ on := 15, ground := Ground.data }, { on := 13, ground := Ground.chain }, { on := 11, ground := Ground.guard }], guard := some (11, true) }) (v := ?_) rfl (by kernel_rfl) (by kernel_rfl) (by kernel_rfl) (fun _ _ _ h => h) (Or.inl ⟨by rfl, ?_⟩) (by assumption) ?_
  rotate_left
  · (intro w_ hS_; (try dsimp only at hS_); go_simp; try with_reducible rfl)
  try simp only [Act.put, List.setIfInBounds_toArray, List.set_cons_zero, List.set_cons_succ]
  refine wpAnyH_take (i := 17) (oi := { dst := some 95, op := Op.move (Operand.tmp 14), type := 24, pos := "law.go:305", after := #[{ on := 16, ground := Ground.guard }], guard := some (16, false) }) (v := ?_) rfl (by kernel_rfl) (by kernel_rfl) (by kernel_rfl) (fun _ _ _ h => h) (Or.inl ⟨by rfl, ?_⟩) (by assumption) ?_
  rotate_left
  · (intro w_ hS_; (try dsimp only at hS_); go_simp; try with_reducible rfl)
  try simp only [Act.put, List.setIfInBounds_toArray, List.set_cons_zero, List.set_cons_succ]
  refine wpAnyH_take (i := 18) (oi := { dst := some 96, op := Op.nilCheck (Operand.tmp 95), type := 0, pos := "law.go:305", after := #[{ on := 17, ground := Ground.data }, { on := 16, ground := Ground.guard }], guard := some (16, false) }) (v := ?_) rfl (by kernel_rfl) (by kernel_rfl) (by kernel_rfl) (fun _ _ _ h => h) (Or.inl ⟨by rfl, ?_⟩) (by assumption) ?_
  rotate_left
  · (intro w_ hS_; (try dsimp only at hS_); go_simp; try with_reducible rfl)
  try simp only [Act.put, List.setIfInBounds_toArray, List.set_cons_zero, List.set_cons_succ]
  refine wpAnyH_take (i := 19) (oi := { dst := some 97, op := Op.fieldAddr 37 (Operand.tmp 96) 0, type := 0, pos := "law.go:305", after := #[{ on := 18, ground := Ground.data }, { on := 16, ground := Ground.guard }], guard := some (16, false) }) (v := ?_) rfl (by kernel_rfl) (by kernel_rfl) (by kernel_rfl) (fun _ _ _ h => h) (Or.inl ⟨by rfl, ?_⟩) (by assumption) ?_
  rotate_left
  · (intro w_ hS_; (try dsimp only at hS_); go_simp; try with_reducible rfl)
  try simp only [Act.put, List.setIfInBounds_toArray, List.set_cons_zero, List.set_cons_succ]
  refine wpAnyH_take (i := 20) (oi := { dst := some 98, op := Op.load 35 (Operand.tmp 97), type := 35, pos := "law.go:305", after := #[{ on := 19, ground := Ground.data }, { on := 16, ground := Ground.guard }], guard := some (16, false) }) (v := ?_) rfl (by kernel_rfl) (by kernel_rfl) (by kernel_rfl) (fun _ _ _ h => h) (Or.inl ⟨by rfl, ?_⟩) (by assumption) ?_
  rotate_left
  · (intro w_ hS_; (try dsimp only at hS_); go_simp; try with_reducible rfl)
  try simp only [Act.put, List.setIfInBounds_toArray, List.set_cons_zero, List.set_cons_succ]
  refine wpAnyH_take (i := 21) (oi := { dst := some 99, op := Op.load 35 (Operand.tmp 16), type := 35, pos := "law.go:305", after := #[{ on := 16, ground := Ground.guard }], guard := some (16, false) }) (v := ?_) rfl (by kernel_rfl) (by kernel_rfl) (by kernel_rfl) (fun _ _ _ h => h) (Or.inl ⟨by rfl, ?_⟩) (by assumption) ?_
  rotate_left
  · (intro w_ hS_; (try dsimp only at hS_); go_simp; try with_reducible rfl)
  try simp only [Act.put, List.setIfInBounds_toArray, List.set_cons_zero, List.set_cons_succ]
  refine wpAnyH_take (i := 22) (oi := { dst := some 100, op := Op.binOp BinOp.eql 35 (Operand.tmp 98) (Operand.tmp 99) 35, type := 4, pos := "law.go:305", after := #[{ on := 20, ground := Ground.data }, { on := 21, ground := Ground.data }, { on := 16, ground := Ground.guard }], guard := some (16, false) }) (v := ?_) rfl (by kernel_rfl) (by kernel_rfl) (by kernel_rfl) (fun _ _ _ h => h) (Or.inl ⟨by rfl, ?_⟩) (by assumption) ?_
  rotate_left
  · (intro w_ hS_; (try dsimp only at hS_); go_simp; try with_reducible rfl)
  try simp only [Act.put, List.setIfInBounds_toArray, List.set_cons_zero, List.set_cons_succ]
  refine wpAnyH_take (i := 23) (oi := { dst := some 101, op := Op.pick (Operand.tmp 94) (Operand.const (Value.bool true)) (Operand.tmp 100), type := 4, pos := "law.go:305", after := #[{ on := 16, ground := Ground.data }, { on := 22, ground := Ground.data }, { on := 11, ground := Ground.guard }], guard := some (11, true) }) (v := ?_) rfl (by kernel_rfl) (by kernel_rfl) (by kernel_rfl) (fun _ _ _ h => h) (Or.inl ⟨by rfl, ?_⟩) (by assumption) ?_
  rotate_left
  · (intro w_ hS_; (try dsimp only at hS_); go_simp; try with_reducible rfl)
  try simp only [Act.put, List.setIfInBounds_toArray, List.set_cons_zero, List.set_cons_succ]
  refine wpAnyH_take (i := 24) (oi := { dst := some 102, op := Op.pick (Operand.tmp 89) (Operand.tmp 101) (Operand.const (Value.bool false)), type := 4, pos := "law.go:305", after := #[{ on := 11, ground := Ground.data }, { on := 23, ground := Ground.data }], guard := none }) (v := ?_) rfl (by kernel_rfl) (by kernel_rfl) (by kernel_rfl) (fun _ _ _ h => h) (Or.inl ⟨by rfl, ?_⟩) (by assumption) ?_
  rotate_left
  · (intro w_ hS_; (try dsimp only at hS_); go_simp; try with_reducible rfl)
  try simp only [Act.put, List.setIfInBounds_toArray, List.set_cons_zero, List.set_cons_succ]
  refine wpAnyH_take (i := 25) (oi := { dst := some 103, op := Op.move (Operand.tmp 102), type := 4, pos := "law.go:305", after := #[{ on := 24, ground := Ground.data }, { on := 16, ground := Ground.chain }], guard := none }) (v := ?_) rfl (by kernel_rfl) (by kernel_rfl) (by kernel_rfl) (fun _ _ _ h => h) (Or.inl ⟨by rfl, ?_⟩) (by assumption) ?_
  rotate_left
  · (intro w_ hS_; (try dsimp only at hS_); go_simp; try with_reducible rfl)
  try simp only [Act.put, List.setIfInBounds_toArray, List.set_cons_zero, List.set_cons_succ]
  refine wpAnyH_take (i := 26) (oi := { dst := some 104, op := Op.move (Operand.tmp 19), type := 4, pos := "law.go:305", after := #[{ on := 25, ground := Ground.guard }], guard := some (25, true) }) (v := ?_) rfl (by kernel_rfl) (by kernel_rfl) (by kernel_rfl) (fun _ _ _ h => h) (Or.inl ⟨by rfl, ?_⟩) (by assumption) ?_
  rotate_left
  · (intro w_ hS_; (try dsimp only at hS_); go_simp; try with_reducible rfl)
  try simp only [Act.put, List.setIfInBounds_toArray, List.set_cons_zero, List.set_cons_succ]
  refine wpAnyH_take (i := 27) (oi := { dst := some 105, op := Op.move (Operand.tmp 104), type := 4, pos := "law.go:305", after := #[{ on := 26, ground := Ground.data }, { on := 25, ground := Ground.chain }, { on := 25, ground := Ground.guard }], guard := some (25, true) }) (v := ?_) rfl (by kernel_rfl) (by kernel_rfl) (by kernel_rfl) (fun _ _ _ h => h) (Or.inl ⟨by rfl, ?_⟩) (by assumption) ?_
  rotate_left
  · (intro w_ hS_; (try dsimp only at hS_); go_simp; try with_reducible rfl)
  try simp only [Act.put, List.setIfInBounds_toArray, List.set_cons_zero, List.set_cons_succ]
  refine wpAnyH_take (i := 28) (oi := { dst := some 106, op := Op.move (Operand.tmp 4), type := 4, pos := "law.go:305", after := #[{ on := 27, ground := Ground.guard }], guard := some (27, false) }) (v := ?_) rfl (by kernel_rfl) (by kernel_rfl) (by kernel_rfl) (fun _ _ _ h => h) (Or.inl ⟨by rfl, ?_⟩) (by assumption) ?_
  rotate_left
  · (intro w_ hS_; (try dsimp only at hS_); go_simp; try with_reducible rfl)
  try simp only [Act.put, List.setIfInBounds_toArray, List.set_cons_zero, List.set_cons_succ]
  refine wpAnyH_take (i := 29) (oi := { dst := some 107, op := Op.unOp UnOp.not 4 (Operand.tmp 106), type := 4, pos := "law.go:305", after := #[{ on := 28, ground := Ground.data }, { on := 27, ground := Ground.guard }], guard := some (27, false) }) (v := ?_) rfl (by kernel_rfl) (by kernel_rfl) (by kernel_rfl) (fun _ _ _ h => h) (Or.inl ⟨by rfl, ?_⟩) (by assumption) ?_
  rotate_left
  · (intro w_ hS_; (try dsimp only at hS_); go_simp; try with_reducible rfl)
  try simp only [Act.put, List.setIfInBounds_toArray, List.set_cons_zero, List.set_cons_succ]
  refine wpAnyH_take (i := 30) (oi := { dst := some 108, op := Op.pick (Operand.tmp 105) (Operand.const (Value.bool true)) (Operand.tmp 107), type := 4, pos := "law.go:305", after := #[{ on := 27, ground := Ground.data }, { on := 29, ground := Ground.data }, { on := 25, ground := Ground.guard }], guard := some (25, true) }) (v := ?_) rfl (by kernel_rfl) (by kernel_rfl) (by kernel_rfl) (fun _ _ _ h => h) (Or.inl ⟨by rfl, ?_⟩) (by assumption) ?_
  rotate_left
  · (intro w_ hS_; (try dsimp only at hS_); go_simp; try with_reducible rfl)
  try simp only [Act.put, List.setIfInBounds_toArray, List.set_cons_zero, List.set_cons_succ]
  refine wpAnyH_take (i := 31) (oi := { dst := some 109, op := Op.move (Operand.tmp 108), type := 4, pos := "law.go:305", after := #[{ on := 30, ground := Ground.data }, { on := 27, ground := Ground.chain }, { on := 25, ground := Ground.guard }], guard := some (25, true) }) (v := ?_) rfl (by kernel_rfl) (by kernel_rfl) (by kernel_rfl) (fun _ _ _ h => h) (Or.inl ⟨by rfl, ?_⟩) (by assumption) ?_
  rotate_left
  · (intro w_ hS_; (try dsimp only at hS_); go_simp; try with_reducible rfl)
  try simp only [Act.put, List.setIfInBounds_toArray, List.set_cons_zero, List.set_cons_succ]
  refine wpAnyH_take (i := 32) (oi := { dst := some 110, op := Op.buildSlice 71 3 #[(0, Operand.const (Value.int IntKind.i64 6)), (1, Operand.const (Value.int IntKind.i64 7)), (2, Operand.const (Value.int IntKind.i64 8))], type := 71, pos := "law.go:305", after := #[{ on := 31, ground := Ground.guard }], guard := some (31, false) }) (v := undef) rfl (by kernel_rfl) (by kernel_rfl) (by kernel_rfl) (fun _ _ _ h => h) (Or.inr ⟨by rfl, rfl⟩) (by assumption) ?_
  try simp only [Act.put, List.setIfInBounds_toArray, List.set_cons_zero, List.set_cons_succ]
  refine wpAnyH_take (i := 33) (oi := { dst := some 111, op := Op.move (Operand.tmp 3), type := 66, pos := "law.go:305", after := #[{ on := 31, ground := Ground.guard }], guard := some (31, false) }) (v := undef) rfl (by kernel_rfl) (by kernel_rfl) (by kernel_rfl) (fun _ _ _ h => h) (Or.inr ⟨by rfl, rfl⟩) (by assumption) ?_
  try simp only [Act.put, List.setIfInBounds_toArray, List.set_cons_zero, List.set_cons_succ]
  refine wpAnyH_take (i := 34) (oi := { dst := some 112, op := Op.call { callee := Callee.value (Operand.func 29), args := #[Operand.tmp 110, Operand.tmp 111], argTypes := #[71, 3] }, type := 4, pos := "law.go:305", after := #[{ on := 32, ground := Ground.data }, { on := 33, ground := Ground.data }, { on := 31, ground := Ground.chain }, { on := 31, ground := Ground.guard }], guard := some (31, false) }) (v := undef) rfl (by kernel_rfl) (by kernel_rfl) (by kernel_rfl) (fun _ _ _ h => h) (Or.inr ⟨by rfl, rfl⟩) (by assumption) ?_
  try simp only [Act.put, List.setIfInBounds_toArray, List.set_cons_zero, List.set_cons_succ]
  refine wpAnyH_take (i := 35) (oi := { dst := some 113, op := Op.unOp UnOp.not 4 (Operand.tmp 112), type := 4, pos := "law.go:305", after := #[{ on := 34, ground := Ground.data }, { on := 31, ground := Ground.guard }], guard := some (31, false) }) (v := undef) rfl (by kernel_rfl) (by kernel_rfl) (by kernel_rfl) (fun _ _ _ h => h) (Or.inr ⟨by rfl, rfl⟩) (by assumption) ?_
  try simp only [Act.put, List.setIfInBounds_toArray, List.set_cons_zero, List.set_cons_succ]
  refine wpAnyH_take (i := 36) (oi := { dst := some 114, op := Op.pick (Operand.tmp 109) (Operand.const (Value.bool true)) (Operand.tmp 113), type := 4, pos := "law.go:305", after := #[{ on := 31, ground := Ground.data }, { on := 35, ground := Ground.data }, { on := 25, ground := Ground.guard }], guard := some (25, true) }) (v := ?_) rfl (by kernel_rfl) (by kernel_rfl) (by kernel_rfl) (fun _ _ _ h => h) (Or.inl ⟨by rfl, ?_⟩) (by assumption) ?_
  rotate_left
  · (intro w_ hS_; (try dsimp only at hS_); go_simp; try with_reducible rfl)
  try simp only [Act.put, List.setIfInBounds_toArray, List.set_cons_zero, List.set_cons_succ]
  refine wpAnyH_take (i := 37) (oi := { dst := some 115, op := Op.pick (Operand.tmp 103) (Operand.tmp 114) (Operand.const (Value.bool false)), type := 4, pos := "law.go:305", after := #[{ on := 25, ground := Ground.data }, { on := 36, ground := Ground.data }], guard := none }) (v := ?_) rfl (by kernel_rfl) (by kernel_rfl) (by kernel_rfl) (fun _ _ _ h => h) (Or.inl ⟨by rfl, ?_⟩) (by assumption) ?_
  rotate_left
  · (intro w_ hS_; (try dsimp only at hS_); go_simp; try with_reducible rfl)
  try simp only [Act.put, List.setIfInBounds_toArray, List.set_cons_zero, List.set_cons_succ]
  refine wpAnyH_take (i := 38) (oi := { dst := some 12, op := Op.assign (Operand.tmp 115), type := 4, pos := "law.go:305", after := #[{ on := 37, ground := Ground.data }, { on := 34, ground := Ground.chain }, { on := 0, ground := Ground.phase }, { on := 1, ground := Ground.phase }, { on := 2, ground := Ground.phase }, { on := 3, ground := Ground.phase }, { on := 4, ground := Ground.phase }, { on := 5, ground := Ground.phase }, { on := 6, ground := Ground.phase }, { on := 7, ground := Ground.phase }, { on := 8, ground := Ground.phase }, { on := 9, ground := Ground.phase }, { on := 10, ground := Ground.phase }, { on := 11, ground := Ground.phase }, { on := 12, ground := Ground.phase }, { on := 13, ground := Ground.phase }, { on := 14, ground := Ground.phase }, { on := 15, ground := Ground.phase }, { on := 16, ground := Ground.phase }, { on := 17, ground := Ground.phase }, { on := 18, ground := Ground.phase }, { on := 19, ground := Ground.phase }, { on := 20, ground := Ground.phase }, { on := 21, ground := Ground.phase }, { on := 22, ground := Ground.phase }, { on := 23, ground := Ground.phase }, { on := 24, ground := Ground.phase }, { on := 25, ground := Ground.phase }, { on := 26, ground := Ground.phase }, { on := 27, ground := Ground.phase }, { on := 28, ground := Ground.phase }, { on := 29, ground := Ground.phase }, { on := 30, ground := Ground.phase }, { on := 31, ground := Ground.phase }, { on := 32, ground := Ground.phase }, { on := 33, ground := Ground.phase }, { on := 34, ground := Ground.phase }, { on := 35, ground := Ground.phase }, { on := 36, ground := Ground.phase }, { on := 37, ground := Ground.phase }], guard := none }) (v := ?_) rfl (by kernel_rfl) (by kernel_rfl) (by kernel_rfl) (fun _ _ _ h => h) (Or.inl ⟨by rfl, ?_⟩) (by assumption) ?_
  rotate_left
  · (intro w_ hS_; (try dsimp only at hS_); go_simp; try with_reducible rfl)
  try simp only [Act.put, List.setIfInBounds_toArray, List.set_cons_zero, List.set_cons_succ]
  refine wpAnyH_done (by kernel_rfl) ?_ _
  (try dsimp only at hHeld)
  go_split_ands
  go_wp2
  go_ret
  exact ⟨rfl, by assumption⟩
set_option maxRecDepth 100000 in
set_option maxHeartbeats 4000000 in
theorem reads_b (c : Int) (c0 : 0 ≤ c) (m' p0' p1' : Int) (o0' o1' sp' : Bool) (a' b' : Int) (ha : 0 ≤ a') (ha2 : a' ≤ 4294967295) (hb : 0 ≤ b') (hb2 : b' ≤ 4294967295) (w : World) (B : Option Addr) (cB : Nat) (sc : List VA) (hS : ScOk w B sc) (r x : Int) (hdo : ∀ s : VS, doV s r true x = (writeS s r x, ⟨0, false, -1, true⟩)) (e3 : (r == 3) = false) (e4 : (r == 4) = false) (e5 : (r == 5) = false) :
    Calls Try.prog 8 #[.int .u8 c, .agg #[.int .i64 m', .int .i64 p0', .int .i64 p1', .bool o0', .bool o1', .bool sp', .int .u32 a', .int .u32 b'], .slice B sc.length cB, .int .i64 r, .bool true, .int .u64 x] w fun e w' => e = .returned (.bool true) ∧ Below w.heap.size w w' := by
  obtain ⟨n, hn, h1, h2⟩ : ∃ n : Nat, 1 + c % 16 = (n : Int) ∧ 1 ≤ n ∧ n ≤ 16 := ⟨(1 + c % 16).toNat, by omega, by omega, by omega⟩
  have hO := (runA_ok n ⟨m', p0', p1', o0', o1', sp', a', b', List.replicate n z54, 0⟩ sc ⟨List.length_replicate, h2, by omega, rep_st n, Int.le_refl 0, by show (0 : Int) ≤ 4611686018427387904; omega⟩ rfl hS.len) sc.length (Nat.le_refl _)
  have HP := Lib.hid (fun (W : World) (h : ScOk W B sc) => played_c n h1 h2 c hn c0 m' p0' p1' o0' o1' sp' a' b' ha ha2 hb hb2 W B cB sc h)
  have HS := Lib.hid hS
  clear hS
  generalize runA n ⟨m', p0', p1', o0', o1', sp', a', b', List.replicate n z54, 0⟩ sc sc.length = s at *
  obtain ⟨⟨hlen, h16, h0, hst, hlo, hhi⟩, -⟩ := hO
  obtain ⟨m, p0, p1, o0, o1, sp, a, b, ys, lost⟩ := s
  simp only at hlen hst hlo hhi
  subst hlen
  go_enter Try.func8, Try.ntmps8
  have hB_0 : Below w.heap.size w w := Below.refl _ _
  go_wp2_with fail
  refine (awake_c _).mono ?_
  rintro e v1 ⟨rfl, hb1⟩
  obtain ⟨F_1, F_1'⟩ : Row v1 w.heap.size #[.int .i64 m', .int .i64 p0', .int .i64 p1', .bool o0', .bool o1', .bool sp', .int .u32 a', .int .u32 b'] := Row.step (by go_simp) (by go_simp) hb1
  have hB_1 : Below w.heap.size w v1 := bk (by go_simp) (by first | (go_simp; done) | (go_simp; omega) | exact Below.size (by assumption)) hb1
  clear hB_0 hb1
  have hz_1 : w.heap.size ≤ v1.heap.size := hB_1.size
  have hl_F_1 := isRow.lt F_1
  have ne_F_1_0 : ¬ w.heap.size = v1.heap.size := by omega
  have en_F_1_0 : ¬ v1.heap.size = w.heap.size := by omega
  have ne_F_1_1 : ¬ w.heap.size = v1.heap.size + 1 := by omega
  have en_F_1_1 : ¬ v1.heap.size + 1 = w.heap.size := by omega
  go_wp2_with fail
  refine (HP.out _ (HS.out.below hB_1)).mono ?_
  rintro e v0 ⟨gv, lv, rfl, hV0, hL0, n12, g1, g2, hb0⟩
  obtain ⟨V0, V0'⟩ : Row v0 gv #[.int .i64 m, .int .i64 p0, .int .i64 p1, .bool o0, .bool o1, .bool sp, .int .u32 a, .int .u32 b, .slice (some ⟨lv, 0, none⟩) ys.length ys.length, .int .i64 lost] := hV0
  obtain ⟨L0, L0'⟩ : Row v0 lv (FA ys) := hL0
  have hB0 : Below w.heap.size w v0 := bk hB_1 hB_1.size hb0
  have gw1 : w.heap.size ≤ gv := Nat.le_trans hB_1.size g1
  have gw2 : w.heap.size ≤ lv := Nat.le_trans hB_1.size g2
  have n21 : ¬ lv = gv := fun e => n12 e.symm
  clear hb0 F_1 F_1' hB_1 HP HS g1 g2 hn h1 h2
  have hS : SOk ys.length ⟨m, p0, p1, o0, o1, sp, a, b, ys, lost⟩ := ⟨rfl, h16, h0, hst, hlo, hhi⟩
  obtain ⟨m2, p02, p12, o02, o12, sp2, hw⟩ : ∃ (m2 p02 p12 : Int) (o02 o12 sp2 : Bool), writeS ⟨m, p0, p1, o0, o1, sp, a, b, ys, lost⟩ r x = ⟨m2, p02, p12, o02, o12, sp2, a, b, ys, lost⟩ := ⟨_, _, _, _, _, _, rfl⟩
  obtain ⟨N2, hD⟩ : ∃ N2 : Int, ∀ W, isRow W gv → rowAt W gv = #[.int .i64 m, .int .i64 p0, .int .i64 p1, .bool o0, .bool o1, .bool sp, .int .u32 a, .int .u32 b, .slice (some ⟨lv, 0, none⟩) ys.length ys.length, .int .i64 lost] → isRow W lv → rowAt W lv = FA ys → Calls Try.prog 28 #[.pointer (some ⟨gv, 0, none⟩), .int .i64 r, .bool true, .int .u64 x] W fun e w' => e = .returned (.tuple #[.int .u64 N2, .agg #[.bool false, .int .i64 (-1)], .bool true]) ∧ Row w' gv #[.int .i64 m2, .int .i64 p02, .int .i64 p12, .bool o02, .bool o12, .bool sp2, .int .u32 a, .int .u32 b, .slice (some ⟨lv, 0, none⟩) ys.length ys.length, .int .i64 lost] ∧ Row w' lv (FA ys) ∧ Aside2 gv lv W w' := ⟨_, fun W q1 q2 q3 q4 => by
    have q := vdo_c ys.length gv lv ⟨m, p0, p1, o0, o1, sp, a, b, ys, lost⟩ hS n12 W q3 q4 q1 q2 r true x
    rw [hdo, hw] at q
    exact q⟩
  have HD := Lib.hid hD
  clear hD
  go_wp2_with (at_builtin; refine Kd.R_append_rows k54 (Rr := k54.K v0) (w0 := v0) v0.heap.size rfl _ _ 22 54 (.agg (enc z54)) 56 rfl Try.underlying22 infoL5 rfl (by decide) (by decide) _ ([] : List S54) ys (some ⟨lv, 0, none⟩) ys.length ys.length (fun _ => True) (fun _ => False) rfl rfl (Kd.R_nil _ _ _ _ _) (fa_kd L0 L0' (by omega)) (fun p cs hp => by rw [k54_open hp]; exact k54_mkM _ _ _ _) (fun _ h => h.elim) (fun _ _ => trivial) (Below.refl _ _) (by simp) (by simp; omega) ?_; intro x_ v1 hR_ hb1 _ _; refine stop_in ?_)
  refine stop_out ?_
  rw [List.nil_append] at hR_
  obtain ⟨ob, cO, csO, rfl, hcO, hob, ⟨O_1, O_1'⟩, hpO⟩ := copied hR_ h0
  clear hR_
  have ne_V_O : ¬ gv = ob := by have := isRow.lt V0; omega
  have en_V_O : ¬ ob = gv := by omega
  have ne_L_O : ¬ lv = ob := by have := isRow.lt L0; omega
  have en_L_O : ¬ ob = lv := by omega
  have hwob : w.heap.size ≤ ob := Nat.le_trans hB0.size hob
  obtain ⟨V_1, V_1'⟩ : Row v1 gv #[.int .i64 m, .int .i64 p0, .int .i64 p1, .bool o0, .bool o1, .bool sp, .int .u32 a, .int .u32 b, .slice (some ⟨lv, 0, none⟩) ys.length ys.length, .int .i64 lost] := Row.step (by go_simp) (by go_simp) hb1
  obtain ⟨L_1, L_1'⟩ : Row v1 lv (FA ys) := Row.step (by go_simp) (by go_simp) hb1
  have hB_1 : Below w.heap.size w v1 := bk (by go_simp) (by first | (go_simp; done) | (go_simp; omega) | exact Below.size (by assumption)) hb1
  clear V0 V0' L0 L0' hB0 hb1
  have hz_1 : w.heap.size ≤ v1.heap.size := hB_1.size
  have hl_V_1 := isRow.lt V_1
  have ne_V_1_0 : ¬ gv = v1.heap.size := by omega
  have en_V_1_0 : ¬ v1.heap.size = gv := by omega
  have ne_V_1_1 : ¬ gv = v1.heap.size + 1 := by omega
  have en_V_1_1 : ¬ v1.heap.size + 1 = gv := by omega
  have hl_L_1 := isRow.lt L_1
  have ne_L_1_0 : ¬ lv = v1.heap.size := by omega
  have en_L_1_0 : ¬ v1.heap.size = lv := by omega
  have ne_L_1_1 : ¬ lv = v1.heap.size + 1 := by omega
  have en_L_1_1 : ¬ v1.heap.size + 1 = lv := by omega
  have hl_O_1 := isRow.lt O_1
  have ne_O_1_0 : ¬ ob = v1.heap.size := by omega
  have en_O_1_0 : ¬ v1.heap.size = ob := by omega
  have ne_O_1_1 : ¬ ob = v1.heap.size + 1 := by omega
  have en_O_1_1 : ¬ v1.heap.size + 1 = ob := by omega
  go_wp2_with fail
  have ne_V_F : ¬ gv = v1.heap.size := by omega
  have en_V_F : ¬ v1.heap.size = gv := by omega
  have ne_L_F : ¬ lv = v1.heap.size := by omega
  have en_L_F : ¬ v1.heap.size = lv := by omega
  have ne_O_F : ¬ ob = v1.heap.size := by omega
  have en_O_F : ¬ v1.heap.size = ob := by omega
  refine (HD.out _ (by go_simp) (by go_simp) (by go_simp) (by go_simp)).mono ?_
  rintro e v2 ⟨rfl, ⟨V_2, V_2'⟩, ⟨L_2, L_2'⟩, hA2⟩
  obtain ⟨O_2, O_2'⟩ : Row v2 ob csO := hA2.row ⟨by go_simp, by go_simp⟩ (by omega) (by omega)
  obtain ⟨F_2, F_2'⟩ : Row v2 v1.heap.size #[.int .i64 m, .int .i64 p0, .int .i64 p1, .bool o0, .bool o1, .bool sp, .int .u32 a, .int .u32 b] := hA2.row ⟨by go_simp, by go_simp⟩ (by omega) (by omega)
  have hB_2 : Below w.heap.size w v2 := hA2.below (by go_simp) (by first | omega | (go_simp; done) | (go_simp; omega)) (by first | omega | (go_simp; done) | (go_simp; omega)) (by first | (go_simp; done) | (go_simp; omega) | exact Below.size (by assumption))
  clear V_1 V_1' L_1 L_1' O_1 O_1' hB_1 hA2
  have hz_2 : w.heap.size ≤ v2.heap.size := hB_2.size
  have hl_V_2 := isRow.lt V_2
  have ne_V_2_0 : ¬ gv = v2.heap.size := by omega
  have en_V_2_0 : ¬ v2.heap.size = gv := by omega
  have ne_V_2_1 : ¬ gv = v2.heap.size + 1 := by omega
  have en_V_2_1 : ¬ v2.heap.size + 1 = gv := by omega
  have hl_L_2 := isRow.lt L_2
  have ne_L_2_0 : ¬ lv = v2.heap.size := by omega
  have en_L_2_0 : ¬ v2.heap.size = lv := by omega
  have ne_L_2_1 : ¬ lv = v2.heap.size + 1 := by omega
  have en_L_2_1 : ¬ v2.heap.size + 1 = lv := by omega
  have hl_O_2 := isRow.lt O_2
  have ne_O_2_0 : ¬ ob = v2.heap.size := by omega
  have en_O_2_0 : ¬ v2.heap.size = ob := by omega
  have ne_O_2_1 : ¬ ob = v2.heap.size + 1 := by omega
  have en_O_2_1 : ¬ v2.heap.size + 1 = ob := by omega
  have hl_F_2 := isRow.lt F_2
  have ne_F_2_0 : ¬ v1.heap.size = v2.heap.size := by omega
  have en_F_2_0 : ¬ v2.heap.size = v1.heap.size := by omega
  have ne_F_2_1 : ¬ v1.heap.size = v2.heap.size + 1 := by omega
  have en_F_2_1 : ¬ v2.heap.size + 1 = v1.heap.size := by omega
  go_wp2_with fail
  have ne_V_E : ¬ gv = v2.heap.size := by omega
  have en_V_E : ¬ v2.heap.size = gv := by omega
  have ne_L_E : ¬ lv = v2.heap.size := by omega
  have en_L_E : ¬ v2.heap.size = lv := by omega
  have ne_O_E : ¬ ob = v2.heap.size := by omega
  have en_O_E : ¬ v2.heap.size = ob := by omega
  have ne_F_E : ¬ v1.heap.size = v2.heap.size := by omega
  have en_F_E : ¬ v2.heap.size = v1.heap.size := by omega
  refine wp_named (fun W_ => (isRow W_ gv ∧ rowAt W_ gv = #[.int .i64 m2, .int .i64 p02, .int .i64 p12, .bool o02, .bool o12, .bool sp2, .int .u32 a, .int .u32 b, .slice (some ⟨lv, 0, none⟩) ys.length ys.length, .int .i64 lost]) ∧ (isRow W_ lv ∧ rowAt W_ lv = (FA ys)) ∧ (isRow W_ ob ∧ rowAt W_ ob = csO) ∧ (isRow W_ v1.heap.size ∧ rowAt W_ v1.heap.size = #[.int .i64 m, .int .i64 p0, .int .i64 p1, .bool o0, .bool o1, .bool sp, .int .u32 a, .int .u32 b]) ∧ (isRow W_ v2.heap.size ∧ rowAt W_ v2.heap.size = #[.bool false, .int .i64 (-1)]) ∧ Below w.heap.size w W_) (by refine ⟨⟨by go_simp, by go_simp⟩, ⟨by go_simp, by go_simp⟩, ⟨by go_simp, by go_simp⟩, ⟨by go_simp, by go_simp⟩, ⟨by go_simp, by go_simp⟩, by go_simp⟩) ?_
  rintro v3 ⟨⟨V_3, V_3'⟩, ⟨L_3, L_3'⟩, ⟨O_3, O_3'⟩, ⟨F_3, F_3'⟩, ⟨E_3, E_3'⟩, hB_3⟩
  clear V_2 V_2' L_2 L_2' O_2 O_2' F_2 F_2' hB_2
  have hz_3 : w.heap.size ≤ v3.heap.size := hB_3.size
  have hl_V_3 := isRow.lt V_3
  have ne_V_3_0 : ¬ gv = v3.heap.size := by omega
  have en_V_3_0 : ¬ v3.heap.size = gv := by omega
  have ne_V_3_1 : ¬ gv = v3.heap.size + 1 := by omega
  have en_V_3_1 : ¬ v3.heap.size + 1 = gv := by omega
  have hl_L_3 := isRow.lt L_3
  have ne_L_3_0 : ¬ lv = v3.heap.size := by omega
  have en_L_3_0 : ¬ v3.heap.size = lv := by omega
  have ne_L_3_1 : ¬ lv = v3.heap.size + 1 := by omega
  have en_L_3_1 : ¬ v3.heap.size + 1 = lv := by omega
  have hl_O_3 := isRow.lt O_3
  have ne_O_3_0 : ¬ ob = v3.heap.size := by omega
  have en_O_3_0 : ¬ v3.heap.size = ob := by omega
  have ne_O_3_1 : ¬ ob = v3.heap.size + 1 := by omega
  have en_O_3_1 : ¬ v3.heap.size + 1 = ob := by omega
  have hl_F_3 := isRow.lt F_3
  have ne_F_3_0 : ¬ v1.heap.size = v3.heap.size := by omega
  have en_F_3_0 : ¬ v3.heap.size = v1.heap.size := by omega
  have ne_F_3_1 : ¬ v1.heap.size = v3.heap.size + 1 := by omega
  have en_F_3_1 : ¬ v3.heap.size + 1 = v1.heap.size := by omega
  have hl_E_3 := isRow.lt E_3
  have ne_E_3_0 : ¬ v2.heap.size = v3.heap.size := by omega
  have en_E_3_0 : ¬ v3.heap.size = v2.heap.size := by omega
  have ne_E_3_1 : ¬ v2.heap.size = v3.heap.size + 1 := by omega
  have en_E_3_1 : ¬ v3.heap.size + 1 = v2.heap.size := by omega
  refine wp_region_held_drew (S := fun w' => isRow w' gv ∧ rowAt w' gv = #[.int .i64 m2, .int .i64 p02, .int .i64 p12, .bool o02, .bool o12, .bool sp2, .int .u32 a, .int .u32 b, .slice (some ⟨lv, 0, none⟩) ys.length ys.length, .int .i64 lost] ∧ isRow w' lv ∧ rowAt w' lv = (FA ys) ∧ isRow w' ob ∧ rowAt w' ob = csO ∧ isRow w' v1.heap.size ∧ rowAt w' v1.heap.size = #[.int .i64 m, .int .i64 p0, .int .i64 p1, .bool o0, .bool o1, .bool sp, .int .u32 a, .int .u32 b] ∧ isRow w' v2.heap.size ∧ rowAt w' v2.heap.size = #[.bool false, .int .i64 (-1)] ∧ Below w.heap.size w w') (by kernel_rfl) ⟨V_3, V_3', L_3, L_3', O_3, O_3', F_3, F_3', E_3, E_3', below_drew0 hB_3⟩ (fun hHeld => ?_)
  refine wpAnyH_take (i := 0) (oi := { dst := some 78, op := Op.move (Operand.tmp 15), type := 22, pos := "law.go:305", after := #[], guard := none }) (v := ?_) rfl (by kernel_rfl) (by kernel_rfl) (by kernel_rfl) (fun _ _ _ h => h) (Or.inl ⟨by rfl, ?_⟩) (by assumption) ?_
  rotate_left
  · (intro w_ hS_; (try dsimp only at hS_); go_simp; try with_reducible rfl)
  try simp only [Act.put, List.setIfInBounds_toArray, List.set_cons_zero, List.set_cons_succ]
  refine wpAnyH_take (i := 1) (oi := { dst := some 79, op := Op.move (Operand.tmp 14), type := 24, pos := "law.go:305", after := #[], guard := none }) (v := ?_) rfl (by kernel_rfl) (by kernel_rfl) (by kernel_rfl) (fun _ _ _ h => h) (Or.inl ⟨by rfl, ?_⟩) (by assumption) ?_
  rotate_left
  · (intro w_ hS_; (try dsimp only at hS_); go_simp; try with_reducible rfl)
  try simp only [Act.put, List.setIfInBounds_toArray, List.set_cons_zero, List.set_cons_succ]
  refine wpAnyH_take (i := 2) (oi := { dst := some 80, op := Op.nilCheck (Operand.tmp 79), type := 0, pos := "law.go:305", after := #[{ on := 1, ground := Ground.data }], guard := none }) (v := ?_) rfl (by kernel_rfl) (by kernel_rfl) (by kernel_rfl) (fun _ _ _ h => h) (Or.inl ⟨by rfl, ?_⟩) (by assumption) ?_
  rotate_left
  · (intro w_ hS_; (try dsimp only at hS_); go_simp; try with_reducible rfl)
  try simp only [Act.put, List.setIfInBounds_toArray, List.set_cons_zero, List.set_cons_succ]
  refine wpAnyH_take (i := 3) (oi := { dst := some 81, op := Op.fieldAddr 37 (Operand.tmp 80) 1, type := 0, pos := "law.go:305", after := #[{ on := 2, ground := Ground.data }], guard := none }) (v := ?_) rfl (by kernel_rfl) (by kernel_rfl) (by kernel_rfl) (fun _ _ _ h => h) (Or.inl ⟨by rfl, ?_⟩) (by assumption) ?_
  rotate_left
  · (intro w_ hS_; (try dsimp only at hS_); go_simp; try with_reducible rfl)
  try simp only [Act.put, List.setIfInBounds_toArray, List.set_cons_zero, List.set_cons_succ]
  refine wpAnyH_take (i := 4) (oi := { dst := some 82, op := Op.load 22 (Operand.tmp 81), type := 22, pos := "law.go:305", after := #[{ on := 3, ground := Ground.data }], guard := none }) (v := ?_) rfl (by kernel_rfl) (by kernel_rfl) (by kernel_rfl) (fun _ _ _ h => h) (Or.inl ⟨by rfl, ?_⟩) (by assumption) ?_
  rotate_left
  · (intro w_ hS_; (try dsimp only at hS_); go_simp; try with_reducible rfl)
  try simp only [Act.put, List.setIfInBounds_toArray, List.set_cons_zero, List.set_cons_succ]
  refine wpAnyH_ready (rs := [5]) (by kernel_rfl) (by simp) ?_
  refine AllReadyH.cons (o := { dst := some 83, op := Op.call { callee := Callee.value (Operand.func 21), args := #[Operand.tmp 78, Operand.tmp 82], argTypes := #[22, 22] }, type := 4, pos := "law.go:305", after := #[{ on := 0, ground := Ground.data }, { on := 4, ground := Ground.data }], guard := none }) rfl (fun K hK => ?_) AllReadyH.nil
  go_simp
  (have hq_ := hHeld; (try dsimp only at hq_); go_split_ands)
  refine (same_c h16 (by assumption) (by assumption) hpO hcO (by assumption) (by assumption) (Nat.le_refl _)).mono ?_
  rintro e w4 ⟨rfl, hb⟩
  refine hK.out _ _ ?_ (fun hHeld => ?_)
  · (go_split_ands; exact ⟨rk1 (by assumption) hb, rk2 (by assumption) (by assumption) hb, rk1 (by assumption) hb, rk2 (by assumption) (by assumption) hb, rk1 (by assumption) hb, rk2 (by assumption) (by assumption) hb, rk1 (by assumption) hb, rk2 (by assumption) (by assumption) hb, rk1 (by assumption) hb, rk2 (by assumption) (by assumption) hb, bk (by assumption) (Below.size (by assumption)) hb⟩)
  clear hK K
  try simp only [Act.put, List.setIfInBounds_toArray, List.set_cons_zero, List.set_cons_succ]
  refine wpAnyH_take (i := 6) (oi := { dst := some 84, op := Op.move (Operand.tmp 83), type := 4, pos := "law.go:305", after := #[{ on := 5, ground := Ground.data }, { on := 5, ground := Ground.chain }], guard := none }) (v := ?_) rfl (by kernel_rfl) (by kernel_rfl) (by kernel_rfl) (fun _ _ _ h => h) (Or.inl ⟨by rfl, ?_⟩) (by assumption) ?_
  rotate_left
  · (intro w_ hS_; (try dsimp only at hS_); go_simp; try with_reducible rfl)
  try simp only [Act.put, List.setIfInBounds_toArray, List.set_cons_zero, List.set_cons_succ]
  refine wpAnyH_take (i := 7) (oi := { dst := some 85, op := Op.load 57 (Operand.tmp 18), type := 57, pos := "law.go:305", after := #[{ on := 6, ground := Ground.guard }], guard := some (6, true) }) (v := ?_) rfl (by kernel_rfl) (by kernel_rfl) (by kernel_rfl) (fun _ _ _ h => h) (Or.inl ⟨by rfl, ?_⟩) (by assumption) ?_
  rotate_left
  · (intro w_ hS_; (try dsimp only at hS_); go_simp; try with_reducible rfl)
  try simp only [Act.put, List.setIfInBounds_toArray, List.set_cons_zero, List.set_cons_succ]
  refine wpAnyH_take (i := 8) (oi := { dst := some 86, op := Op.build 57 #[(1, Operand.const (Value.int IntKind.i64 (-1)))], type := 57, pos := "law.go:305", after := #[{ on := 6, ground := Ground.guard }], guard := some (6, true) }) (v := ?_) rfl (by kernel_rfl) (by kernel_rfl) (by kernel_rfl) (fun _ _ _ h => h) (Or.inl ⟨by rfl, ?_⟩) (by assumption) ?_
  rotate_left
  · (intro w_ hS_; (try dsimp only at hS_); go_simp; try with_reducible rfl)
  try simp only [Act.put, List.setIfInBounds_toArray, List.set_cons_zero, List.set_cons_succ]
  refine wpAnyH_take (i := 9) (oi := { dst := some 87, op := Op.binOp BinOp.eql 57 (Operand.tmp 85) (Operand.tmp 86) 57, type := 4, pos := "law.go:305", after := #[{ on := 7, ground := Ground.data }, { on := 8, ground := Ground.data }, { on := 6, ground := Ground.guard }], guard := some (6, true) }) (v := ?_) rfl (by kernel_rfl) (by kernel_rfl) (by kernel_rfl) (fun _ _ _ h => h) (Or.inl ⟨by rfl, ?_⟩) (by assumption) ?_
  rotate_left
  · (intro w_ hS_; (try dsimp only at hS_); go_simp; try with_reducible rfl)
  try simp only [Act.put, List.setIfInBounds_toArray, List.set_cons_zero, List.set_cons_succ]
  refine wpAnyH_take (i := 10) (oi := { dst := some 88, op := Op.pick (Operand.tmp 84) (Operand.tmp 87) (Operand.const (Value.bool false)), type := 4, pos := "law.go:305", after := #[{ on := 6, ground := Ground.data }, { on := 9, ground := Ground.data }], guard := none }) (v := ?_) rfl (by kernel_rfl) (by kernel_rfl) (by kernel_rfl) (fun _ _ _ h => h) (Or.inl ⟨by rfl, ?_⟩) (by assumption) ?_
  rotate_left
  · (intro w_ hS_; (try dsimp only at hS_); go_simp; try with_reducible rfl)
  try simp only [Act.put, List.setIfInBounds_toArray, List.set_cons_zero, List.set_cons_succ]
  refine wpAnyH_take (i := 11) (oi := { dst := some 89, op := Op.move (Operand.tmp 88), type := 4, pos := "law.go:305", after := #[{ on := 10, ground := Ground.data }, { on := 6, ground := Ground.chain }], guard := none }) (v := ?_) rfl (by kernel_rfl) (by kernel_rfl) (by kernel_rfl) (fun _ _ _ h => h) (Or.inl ⟨by rfl, ?_⟩) (by assumption) ?_
  rotate_left
  · (intro w_ hS_; (try dsimp only at hS_); go_simp; try with_reducible rfl)
  try simp only [Act.put, List.setIfInBounds_toArray, List.set_cons_zero, List.set_cons_succ]
  refine wpAnyH_take (i := 12) (oi := { dst := some 90, op := Op.move (Operand.tmp 4), type := 4, pos := "law.go:305", after := #[{ on := 11, ground := Ground.guard }], guard := some (11, true) }) (v := ?_) rfl (by kernel_rfl) (by kernel_rfl) (by kernel_rfl) (fun _ _ _ h => h) (Or.inl ⟨by rfl, ?_⟩) (by assumption) ?_
  rotate_left
  · (intro w_ hS_; (try dsimp only at hS_); go_simp; try with_reducible rfl)
  try simp only [Act.put, List.setIfInBounds_toArray, List.set_cons_zero, List.set_cons_succ]
  refine wpAnyH_take (i := 13) (oi := { dst := some 91, op := Op.move (Operand.tmp 90), type := 4, pos := "law.go:305", after := #[{ on := 12, ground := Ground.data }, { on := 11, ground := Ground.chain }, { on := 11, ground := Ground.guard }], guard := some (11, true) }) (v := ?_) rfl (by kernel_rfl) (by kernel_rfl) (by kernel_rfl) (fun _ _ _ h => h) (Or.inl ⟨by rfl, ?_⟩) (by assumption) ?_
  rotate_left
  · (intro w_ hS_; (try dsimp only at hS_); go_simp; try with_reducible rfl)
  try simp only [Act.put, List.setIfInBounds_toArray, List.set_cons_zero, List.set_cons_succ]
  refine wpAnyH_take (i := 14) (oi := { dst := some 92, op := Op.move (Operand.tmp 19), type := 4, pos := "law.go:305", after := #[{ on := 13, ground := Ground.guard }], guard := some (13, true) }) (v := ?_) rfl (by kernel_rfl) (by kernel_rfl) (by kernel_rfl) (fun _ _ _ h => h) (Or.inl ⟨by rfl, ?_⟩) (by assumption) ?_
  rotate_left
  · (intro w_ hS_; (try dsimp only at hS_); go_simp; try with_reducible rfl)
  try simp only [Act.put, List.setIfInBounds_toArray, List.set_cons_zero, List.set_cons_succ]
  refine wpAnyH_take (i := 15) (oi := { dst := some 93, op := Op.pick (Operand.tmp 91) (Operand.tmp 92) (Operand.const (Value.bool false)), type := 4, pos := "law.go:305", after := #[{ on := 13, ground := Ground.data }, { on := 14, ground := Ground.data }, { on := 11, ground := Ground.guard }], guard := some (11, true) }) (v := ?_) rfl (by kernel_rfl) (by kernel_rfl) (by kernel_rfl) (fun _ _ _ h => h) (Or.inl ⟨by rfl, ?_⟩) (by assumption) ?_
  rotate_left
  · (intro w_ hS_; (try dsimp only at hS_); go_simp; try with_reducible rfl)
  try simp only [Act.put, List.setIfInBounds_toArray, List.set_cons_zero, List.set_cons_succ]
  refine wpAnyH_take (i := 16) (oi := { dst := some 94, op := Op.move (Operand.tmp 93), type := 4, pos := "law.go:305", after := #[{ on := 15, ground := Ground.data }, { on := 13, ground := Ground.chain }, { on := 11, ground := Ground.guard }], guard := some (11, true) }) (v := ?_) rfl (by kernel_rfl) (by kernel_rfl) (by kernel_rfl) (fun _ _ _ h => h) (Or.inl ⟨by rfl, ?_⟩) (by assumption) ?_
  rotate_left
  · (intro w_ hS_; (try dsimp only at hS_); go_simp; try with_reducible rfl)
  try simp only [Act.put, List.setIfInBounds_toArray, List.set_cons_zero, List.set_cons_succ]
  refine wpAnyH_take (i := 17) (oi := { dst := some 95, op := Op.move (Operand.tmp 14), type := 24, pos := "law.go:305", after := #[{ on := 16, ground := Ground.guard }], guard := some (16, false) }) (v := undef) rfl (by kernel_rfl) (by kernel_rfl) (by kernel_rfl) (fun _ _ _ h => h) (Or.inr ⟨by rfl, rfl⟩) (by assumption) ?_
  try simp only [Act.put, List.setIfInBounds_toArray, List.set_cons_zero, List.set_cons_succ]
  refine wpAnyH_take (i := 18) (oi := { dst := some 96, op := Op.nilCheck (Operand.tmp 95), type := 0, pos := "law.go:305", after := #[{ on := 17, ground := Ground.data }, { on := 16, ground := Ground.guard }], guard := some (16, false) }) (v := undef) rfl (by kernel_rfl) (by kernel_rfl) (by kernel_rfl) (fun _ _ _ h => h) (Or.inr ⟨by rfl, rfl⟩) (by assumption) ?_
  try simp only [Act.put, List.setIfInBounds_toArray, List.set_cons_zero, List.set_cons_succ]
  refine wpAnyH_take (i := 19) (oi := { dst := some 97, op := Op.fieldAddr 37 (Operand.tmp 96) 0, type := 0, pos := "law.go:305", after := #[{ on := 18, ground := Ground.data }, { on := 16, ground := Ground.guard }], guard := some (16, false) }) (v := undef) rfl (by kernel_rfl) (by kernel_rfl) (by kernel_rfl) (fun _ _ _ h => h) (Or.inr ⟨by rfl, rfl⟩) (by assumption) ?_
  try simp only [Act.put, List.setIfInBounds_toArray, List.set_cons_zero, List.set_cons_succ]
  refine wpAnyH_take (i := 20) (oi := { dst := some 98, op := Op.load 35 (Operand.tmp 97), type := 35, pos := "law.go:305", after := #[{ on := 19, ground := Ground.data }, { on := 16, ground := Ground.guard }], guard := some (16, false) }) (v := undef) rfl (by kernel_rfl) (by kernel_rfl) (by kernel_rfl) (fun _ _ _ h => h) (Or.inr ⟨by rfl, rfl⟩) (by assumption) ?_
  try simp only [Act.put, List.setIfInBounds_toArray, List.set_cons_zero, List.set_cons_succ]
  refine wpAnyH_take (i := 21) (oi := { dst := some 99, op := Op.load 35 (Operand.tmp 16), type := 35, pos := "law.go:305", after := #[{ on := 16, ground := Ground.guard }], guard := some (16, false) }) (v := undef) rfl (by kernel_rfl) (by kernel_rfl) (by kernel_rfl) (fun _ _ _ h => h) (Or.inr ⟨by rfl, rfl⟩) (by assumption) ?_
  try simp only [Act.put, List.setIfInBounds_toArray, List.set_cons_zero, List.set_cons_succ]
  refine wpAnyH_take (i := 22) (oi := { dst := some 100, op := Op.binOp BinOp.eql 35 (Operand.tmp 98) (Operand.tmp 99) 35, type := 4, pos := "law.go:305", after := #[{ on := 20, ground := Ground.data }, { on := 21, ground := Ground.data }, { on := 16, ground := Ground.guard }], guard := some (16, false) }) (v := undef) rfl (by kernel_rfl) (by kernel_rfl) (by kernel_rfl) (fun _ _ _ h => h) (Or.inr ⟨by rfl, rfl⟩) (by assumption) ?_
  try simp only [Act.put, List.setIfInBounds_toArray, List.set_cons_zero, List.set_cons_succ]
  refine wpAnyH_take (i := 23) (oi := { dst := some 101, op := Op.pick (Operand.tmp 94) (Operand.const (Value.bool true)) (Operand.tmp 100), type := 4, pos := "law.go:305", after := #[{ on := 16, ground := Ground.data }, { on := 22, ground := Ground.data }, { on := 11, ground := Ground.guard }], guard := some (11, true) }) (v := ?_) rfl (by kernel_rfl) (by kernel_rfl) (by kernel_rfl) (fun _ _ _ h => h) (Or.inl ⟨by rfl, ?_⟩) (by assumption) ?_
  rotate_left
  · (intro w_ hS_; (try dsimp only at hS_); go_simp; try with_reducible rfl)
  try simp only [Act.put, List.setIfInBounds_toArray, List.set_cons_zero, List.set_cons_succ]
  refine wpAnyH_take (i := 24) (oi := { dst := some 102, op := Op.pick (Operand.tmp 89) (Operand.tmp 101) (Operand.const (Value.bool false)), type := 4, pos := "law.go:305", after := #[{ on := 11, ground := Ground.data }, { on := 23, ground := Ground.data }], guard := none }) (v := ?_) rfl (by kernel_rfl) (by kernel_rfl) (by kernel_rfl) (fun _ _ _ h => h) (Or.inl ⟨by rfl, ?_⟩) (by assumption) ?_
  rotate_left
  · (intro w_ hS_; (try dsimp only at hS_); go_simp; try with_reducible rfl)
  try simp only [Act.put, List.setIfInBounds_toArray, List.set_cons_zero, List.set_cons_succ]
  refine wpAnyH_take (i := 25) (oi := { dst := some 103, op := Op.move (Operand.tmp 102), type := 4, pos := "law.go:305", after := #[{ on := 24, ground := Ground.data }, { on := 16, ground := Ground.chain }], guard := none }) (v := ?_) rfl (by kernel_rfl) (by kernel_rfl) (by kernel_rfl) (fun _ _ _ h => h) (Or.inl ⟨by rfl, ?_⟩) (by assumption) ?_
  rotate_left
  · (intro w_ hS_; (try dsimp only at hS_); go_simp; try with_reducible rfl)
  try simp only [Act.put, List.setIfInBounds_toArray, List.set_cons_zero, List.set_cons_succ]
  refine wpAnyH_take (i := 26) (oi := { dst := some 104, op := Op.move (Operand.tmp 19), type := 4, pos := "law.go:305", after := #[{ on := 25, ground := Ground.guard }], guard := some (25, true) }) (v := ?_) rfl (by kernel_rfl) (by kernel_rfl) (by kernel_rfl) (fun _ _ _ h => h) (Or.inl ⟨by rfl, ?_⟩) (by assumption) ?_
  rotate_left
  · (intro w_ hS_; (try dsimp only at hS_); go_simp; try with_reducible rfl)
  try simp only [Act.put, List.setIfInBounds_toArray, List.set_cons_zero, List.set_cons_succ]
  refine wpAnyH_take (i := 27) (oi := { dst := some 105, op := Op.move (Operand.tmp 104), type := 4, pos := "law.go:305", after := #[{ on := 26, ground := Ground.data }, { on := 25, ground := Ground.chain }, { on := 25, ground := Ground.guard }], guard := some (25, true) }) (v := ?_) rfl (by kernel_rfl) (by kernel_rfl) (by kernel_rfl) (fun _ _ _ h => h) (Or.inl ⟨by rfl, ?_⟩) (by assumption) ?_
  rotate_left
  · (intro w_ hS_; (try dsimp only at hS_); go_simp; try with_reducible rfl)
  try simp only [Act.put, List.setIfInBounds_toArray, List.set_cons_zero, List.set_cons_succ]
  refine wpAnyH_take (i := 28) (oi := { dst := some 106, op := Op.move (Operand.tmp 4), type := 4, pos := "law.go:305", after := #[{ on := 27, ground := Ground.guard }], guard := some (27, false) }) (v := undef) rfl (by kernel_rfl) (by kernel_rfl) (by kernel_rfl) (fun _ _ _ h => h) (Or.inr ⟨by rfl, rfl⟩) (by assumption) ?_
  try simp only [Act.put, List.setIfInBounds_toArray, List.set_cons_zero, List.set_cons_succ]
  refine wpAnyH_take (i := 29) (oi := { dst := some 107, op := Op.unOp UnOp.not 4 (Operand.tmp 106), type := 4, pos := "law.go:305", after := #[{ on := 28, ground := Ground.data }, { on := 27, ground := Ground.guard }], guard := some (27, false) }) (v := undef) rfl (by kernel_rfl) (by kernel_rfl) (by kernel_rfl) (fun _ _ _ h => h) (Or.inr ⟨by rfl, rfl⟩) (by assumption) ?_
  try simp only [Act.put, List.setIfInBounds_toArray, List.set_cons_zero, List.set_cons_succ]
  refine wpAnyH_take (i := 30) (oi := { dst := some 108, op := Op.pick (Operand.tmp 105) (Operand.const (Value.bool true)) (Operand.tmp 107), type := 4, pos := "law.go:305", after := #[{ on := 27, ground := Ground.data }, { on := 29, ground := Ground.data }, { on := 25, ground := Ground.guard }], guard := some (25, true) }) (v := ?_) rfl (by kernel_rfl) (by kernel_rfl) (by kernel_rfl) (fun _ _ _ h => h) (Or.inl ⟨by rfl, ?_⟩) (by assumption) ?_
  rotate_left
  · (intro w_ hS_; (try dsimp only at hS_); go_simp; try with_reducible rfl)
  try simp only [Act.put, List.setIfInBounds_toArray, List.set_cons_zero, List.set_cons_succ]
  refine wpAnyH_take (i := 31) (oi := { dst := some 109, op := Op.move (Operand.tmp 108), type := 4, pos := "law.go:305", after := #[{ on := 30, ground := Ground.data }, { on := 27, ground := Ground.chain }, { on := 25, ground := Ground.guard }], guard := some (25, true) }) (v := ?_) rfl (by kernel_rfl) (by kernel_rfl) (by kernel_rfl) (fun _ _ _ h => h) (Or.inl ⟨by rfl, ?_⟩) (by assumption) ?_
  rotate_left
  · (intro w_ hS_; (try dsimp only at hS_); go_simp; try with_reducible rfl)
  try simp only [Act.put, List.setIfInBounds_toArray, List.set_cons_zero, List.set_cons_succ]
  refine wpAnyH_take (i := 32) (oi := { dst := some 110, op := Op.buildSlice 71 3 #[(0, Operand.const (Value.int IntKind.i64 6)), (1, Operand.const (Value.int IntKind.i64 7)), (2, Operand.const (Value.int IntKind.i64 8))], type := 71, pos := "law.go:305", after := #[{ on := 31, ground := Ground.guard }], guard := some (31, false) }) (v := undef) rfl (by kernel_rfl) (by kernel_rfl) (by kernel_rfl) (fun _ _ _ h => h) (Or.inr ⟨by rfl, rfl⟩) (by assumption) ?_
  try simp only [Act.put, List.setIfInBounds_toArray, List.set_cons_zero, List.set_cons_succ]
  refine wpAnyH_take (i := 33) (oi := { dst := some 111, op := Op.move (Operand.tmp 3), type := 66, pos := "law.go:305", after := #[{ on := 31, ground := Ground.guard }], guard := some (31, false) }) (v := undef) rfl (by kernel_rfl) (by kernel_rfl) (by kernel_rfl) (fun _ _ _ h => h) (Or.inr ⟨by rfl, rfl⟩) (by assumption) ?_
  try simp only [Act.put, List.setIfInBounds_toArray, List.set_cons_zero, List.set_cons_succ]
  refine wpAnyH_take (i := 34) (oi := { dst := some 112, op := Op.call { callee := Callee.value (Operand.func 29), args := #[Operand.tmp 110, Operand.tmp 111], argTypes := #[71, 3] }, type := 4, pos := "law.go:305", after := #[{ on := 32, ground := Ground.data }, { on := 33, ground := Ground.data }, { on := 31, ground := Ground.chain }, { on := 31, ground := Ground.guard }], guard := some (31, false) }) (v := undef) rfl (by kernel_rfl) (by kernel_rfl) (by kernel_rfl) (fun _ _ _ h => h) (Or.inr ⟨by rfl, rfl⟩) (by assumption) ?_
  try simp only [Act.put, List.setIfInBounds_toArray, List.set_cons_zero, List.set_cons_succ]
  refine wpAnyH_take (i := 35) (oi := { dst := some 113, op := Op.unOp UnOp.not 4 (Operand.tmp 112), type := 4, pos := "law.go:305", after := #[{ on := 34, ground := Ground.data }, { on := 31, ground := Ground.guard }], guard := some (31, false) }) (v := undef) rfl (by kernel_rfl) (by kernel_rfl) (by kernel_rfl) (fun _ _ _ h => h) (Or.inr ⟨by rfl, rfl⟩) (by assumption) ?_
  try simp only [Act.put, List.setIfInBounds_toArray, List.set_cons_zero, List.set_cons_succ]
  refine wpAnyH_take (i := 36) (oi := { dst := some 114, op := Op.pick (Operand.tmp 109) (Operand.const (Value.bool true)) (Operand.tmp 113), type := 4, pos := "law.go:305", after := #[{ on := 31, ground := Ground.data }, { on := 35, ground := Ground.data }, { on := 25, ground := Ground.guard }], guard := some (25, true) }) (v := ?_) rfl (by kernel_rfl) (by kernel_rfl) (by kernel_rfl) (fun _ _ _ h => h) (Or.inl ⟨by rfl, ?_⟩) (by assumption) ?_
  rotate_left
  · (intro w_ hS_; (try dsimp only at hS_); go_simp; try with_reducible rfl)
  try simp only [Act.put, List.setIfInBounds_toArray, List.set_cons_zero, List.set_cons_succ]
  refine wpAnyH_take (i := 37) (oi := { dst := some 115, op := Op.pick (Operand.tmp 103) (Operand.tmp 114) (Operand.const (Value.bool false)), type := 4, pos := "law.go:305", after := #[{ on := 25, ground := Ground.data }, { on := 36, ground := Ground.data }], guard := none }) (v := ?_) rfl (by kernel_rfl) (by kernel_rfl) (by kernel_rfl) (fun _ _ _ h => h) (Or.inl ⟨by rfl, ?_⟩) (by assumption) ?_
  rotate_left
  · (intro w_ hS_; (try dsimp only at hS_); go_simp; try with_reducible rfl)
  try simp only [Act.put, List.setIfInBounds_toArray, List.set_cons_zero, List.set_cons_succ]
  refine wpAnyH_take (i := 38) (oi := { dst := some 12, op := Op.assign (Operand.tmp 115), type := 4, pos := "law.go:305", after := #[{ on := 37, ground := Ground.data }, { on := 34, ground := Ground.chain }, { on := 0, ground := Ground.phase }, { on := 1, ground := Ground.phase }, { on := 2, ground := Ground.phase }, { on := 3, ground := Ground.phase }, { on := 4, ground := Ground.phase }, { on := 5, ground := Ground.phase }, { on := 6, ground := Ground.phase }, { on := 7, ground := Ground.phase }, { on := 8, ground := Ground.phase }, { on := 9, ground := Ground.phase }, { on := 10, ground := Ground.phase }, { on := 11, ground := Ground.phase }, { on := 12, ground := Ground.phase }, { on := 13, ground := Ground.phase }, { on := 14, ground := Ground.phase }, { on := 15, ground := Ground.phase }, { on := 16, ground := Ground.phase }, { on := 17, ground := Ground.phase }, { on := 18, ground := Ground.phase }, { on := 19, ground := Ground.phase }, { on := 20, ground := Ground.phase }, { on := 21, ground := Ground.phase }, { on := 22, ground := Ground.phase }, { on := 23, ground := Ground.phase }, { on := 24, ground := Ground.phase }, { on := 25, ground := Ground.phase }, { on := 26, ground := Ground.phase }, { on := 27, ground := Ground.phase }, { on := 28, ground := Ground.phase }, { on := 29, ground := Ground.phase }, { on := 30, ground := Ground.phase }, { on := 31, ground := Ground.phase }, { on := 32, ground := Ground.phase }, { on := 33, ground := Ground.phase }, { on := 34, ground := Ground.phase }, { on := 35, ground := Ground.phase }, { on := 36, ground := Ground.phase }, { on := 37, ground := Ground.phase }], guard := none }) (v := ?_) rfl (by kernel_rfl) (by kernel_rfl) (by kernel_rfl) (fun _ _ _ h => h) (Or.inl ⟨by rfl, ?_⟩) (by assumption) ?_
  rotate_left
  · (intro w_ hS_; (try dsimp only at hS_); go_simp; try with_reducible rfl)
  try simp only [Act.put, List.setIfInBounds_toArray, List.set_cons_zero, List.set_cons_succ]
  refine wpAnyH_done (by kernel_rfl) ?_ _
  (try dsimp only at hHeld)
  go_split_ands
  go_wp2
  go_ret
  exact ⟨rfl, by assumption⟩
set_option maxRecDepth 100000 in
set_option maxHeartbeats 4000000 in
theorem reads_c (c : Int) (c0 : 0 ≤ c) (m' p0' p1' : Int) (o0' o1' sp' : Bool) (a' b' : Int) (ha : 0 ≤ a') (ha2 : a' ≤ 4294967295) (hb : 0 ≤ b') (hb2 : b' ≤ 4294967295) (w : World) (B : Option Addr) (cB : Nat) (sc : List VA) (hS : ScOk w B sc) (r x : Int) (hdo : ∀ s : VS, doV s r true x = (s, ⟨0, false, -1, false⟩)) (e3 : (r == 3) = false) (e4 : (r == 4) = false) (e5 : (r == 5) = false) (r6 : ¬ r = 6) (r7 : ¬ r = 7) (r8 : ¬ r = 8) :
    Calls Try.prog 8 #[.int .u8 c, .agg #[.int .i64 m', .int .i64 p0', .int .i64 p1', .bool o0', .bool o1', .bool sp', .int .u32 a', .int .u32 b'], .slice B sc.length cB, .int .i64 r, .bool true, .int .u64 x] w fun e w' => e = .returned (.bool true) ∧ Below w.heap.size w w' := by
  obtain ⟨n, hn, h1, h2⟩ : ∃ n : Nat, 1 + c % 16 = (n : Int) ∧ 1 ≤ n ∧ n ≤ 16 := ⟨(1 + c % 16).toNat, by omega, by omega, by omega⟩
  have hO := (runA_ok n ⟨m', p0', p1', o0', o1', sp', a', b', List.replicate n z54, 0⟩ sc ⟨List.length_replicate, h2, by omega, rep_st n, Int.le_refl 0, by show (0 : Int) ≤ 4611686018427387904; omega⟩ rfl hS.len) sc.length (Nat.le_refl _)
  have HP := Lib.hid (fun (W : World) (h : ScOk W B sc) => played_c n h1 h2 c hn c0 m' p0' p1' o0' o1' sp' a' b' ha ha2 hb hb2 W B cB sc h)
  have HS := Lib.hid hS
  clear hS
  generalize runA n ⟨m', p0', p1', o0', o1', sp', a', b', List.replicate n z54, 0⟩ sc sc.length = s at *
  obtain ⟨⟨hlen, h16, h0, hst, hlo, hhi⟩, -⟩ := hO
  obtain ⟨m, p0, p1, o0, o1, sp, a, b, ys, lost⟩ := s
  simp only at hlen hst hlo hhi
  subst hlen
  go_enter Try.func8, Try.ntmps8
  have hB_0 : Below w.heap.size w w := Below.refl _ _
  go_wp2_with fail
  refine (awake_c _).mono ?_
  rintro e v1 ⟨rfl, hb1⟩
  obtain ⟨F_1, F_1'⟩ : Row v1 w.heap.size #[.int .i64 m', .int .i64 p0', .int .i64 p1', .bool o0', .bool o1', .bool sp', .int .u32 a', .int .u32 b'] := Row.step (by go_simp) (by go_simp) hb1
  have hB_1 : Below w.heap.size w v1 := bk (by go_simp) (by first | (go_simp; done) | (go_simp; omega) | exact Below.size (by assumption)) hb1
  clear hB_0 hb1
  have hz_1 : w.heap.size ≤ v1.heap.size := hB_1.size
  have hl_F_1 := isRow.lt F_1
  have ne_F_1_0 : ¬ w.heap.size = v1.heap.size := by omega
  have en_F_1_0 : ¬ v1.heap.size = w.heap.size := by omega
  have ne_F_1_1 : ¬ w.heap.size = v1.heap.size + 1 := by omega
  have en_F_1_1 : ¬ v1.heap.size + 1 = w.heap.size := by omega
  go_wp2_with fail
  refine (HP.out _ (HS.out.below hB_1)).mono ?_
  rintro e v0 ⟨gv, lv, rfl, hV0, hL0, n12, g1, g2, hb0⟩
  obtain ⟨V0, V0'⟩ : Row v0 gv #[.int .i64 m, .int .i64 p0, .int .i64 p1, .bool o0, .bool o1, .bool sp, .int .u32 a, .int .u32 b, .slice (some ⟨lv, 0, none⟩) ys.length ys.length, .int .i64 lost] := hV0
  obtain ⟨L0, L0'⟩ : Row v0 lv (FA ys) := hL0
  have hB0 : Below w.heap.size w v0 := bk hB_1 hB_1.size hb0
  have gw1 : w.heap.size ≤ gv := Nat.le_trans hB_1.size g1
  have gw2 : w.heap.size ≤ lv := Nat.le_trans hB_1.size g2
  have n21 : ¬ lv = gv := fun e => n12 e.symm
  clear hb0 F_1 F_1' hB_1 HP HS g1 g2 hn h1 h2
  have hS : SOk ys.length ⟨m, p0, p1, o0, o1, sp, a, b, ys, lost⟩ := ⟨rfl, h16, h0, hst, hlo, hhi⟩
  obtain ⟨N2, hD⟩ : ∃ N2 : Int, ∀ W, isRow W gv → rowAt W gv = #[.int .i64 m, .int .i64 p0, .int .i64 p1, .bool o0, .bool o1, .bool sp, .int .u32 a, .int .u32 b, .slice (some ⟨lv, 0, none⟩) ys.length ys.length, .int .i64 lost] → isRow W lv → rowAt W lv = FA ys → Calls Try.prog 28 #[.pointer (some ⟨gv, 0, none⟩), .int .i64 r, .bool true, .int .u64 x] W fun e w' => e = .returned (.tuple #[.int .u64 N2, .agg #[.bool false, .int .i64 (-1)], .bool false]) ∧ Row w' gv #[.int .i64 m, .int .i64 p0, .int .i64 p1, .bool o0, .bool o1, .bool sp, .int .u32 a, .int .u32 b, .slice (some ⟨lv, 0, none⟩) ys.length ys.length, .int .i64 lost] ∧ Row w' lv (FA ys) ∧ Aside2 gv lv W w' := ⟨_, fun W q1 q2 q3 q4 => by
    have q := vdo_c ys.length gv lv ⟨m, p0, p1, o0, o1, sp, a, b, ys, lost⟩ hS n12 W q3 q4 q1 q2 r true x
    rw [hdo] at q
    exact q⟩
  have HD := Lib.hid hD
  clear hD
  go_wp2_with (at_builtin; refine Kd.R_append_rows k54 (Rr := k54.K v0) (w0 := v0) v0.heap.size rfl _ _ 22 54 (.agg (enc z54)) 56 rfl Try.underlying22 infoL5 rfl (by decide) (by decide) _ ([] : List S54) ys (some ⟨lv, 0, none⟩) ys.length ys.length (fun _ => True) (fun _ => False) rfl rfl (Kd.R_nil _ _ _ _ _) (fa_kd L0 L0' (by omega)) (fun p cs hp => by rw [k54_open hp]; exact k54_mkM _ _ _ _) (fun _ h => h.elim) (fun _ _ => trivial) (Below.refl _ _) (by simp) (by simp; omega) ?_; intro x_ v1 hR_ hb1 _ _; refine stop_in ?_)
  refine stop_out ?_
  rw [List.nil_append] at hR_
  obtain ⟨ob, cO, csO, rfl, hcO, hob, ⟨O_1, O_1'⟩, hpO⟩ := copied hR_ h0
  clear hR_
  have ne_V_O : ¬ gv = ob := by have := isRow.lt V0; omega
  have en_V_O : ¬ ob = gv := by omega
  have ne_L_O : ¬ lv = ob := by have := isRow.lt L0; omega
  have en_L_O : ¬ ob = lv := by omega
  have hwob : w.heap.size ≤ ob := Nat.le_trans hB0.size hob
  obtain ⟨V_1, V_1'⟩ : Row v1 gv #[.int .i64 m, .int .i64 p0, .int .i64 p1, .bool o0, .bool o1, .bool sp, .int .u32 a, .int .u32 b, .slice (some ⟨lv, 0, none⟩) ys.length ys.length, .int .i64 lost] := Row.step (by go_simp) (by go_simp) hb1
  obtain ⟨L_1, L_1'⟩ : Row v1 lv (FA ys) := Row.step (by go_simp) (by go_simp) hb1
  have hB_1 : Below w.heap.size w v1 := bk (by go_simp) (by first | (go_simp; done) | (go_simp; omega) | exact Below.size (by assumption)) hb1
  clear V0 V0' L0 L0' hB0 hb1
  have hz_1 : w.heap.size ≤ v1.heap.size := hB_1.size
  have hl_V_1 := isRow.lt V_1
  have ne_V_1_0 : ¬ gv = v1.heap.size := by omega
  have en_V_1_0 : ¬ v1.heap.size = gv := by omega
  have ne_V_1_1 : ¬ gv = v1.heap.size + 1 := by omega
  have en_V_1_1 : ¬ v1.heap.size + 1 = gv := by omega
  have hl_L_1 := isRow.lt L_1
  have ne_L_1_0 : ¬ lv = v1.heap.size := by omega
  have en_L_1_0 : ¬ v1.heap.size = lv := by omega
  have ne_L_1_1 : ¬ lv = v1.heap.size + 1 := by omega
  have en_L_1_1 : ¬ v1.heap.size + 1 = lv := by omega
  have hl_O_1 := isRow.lt O_1
  have ne_O_1_0 : ¬ ob = v1.heap.size := by omega
  have en_O_1_0 : ¬ v1.heap.size = ob := by omega
  have ne_O_1_1 : ¬ ob = v1.heap.size + 1 := by omega
  have en_O_1_1 : ¬ v1.heap.size + 1 = ob := by omega
  go_wp2_with fail
  have ne_V_F : ¬ gv = v1.heap.size := by omega
  have en_V_F : ¬ v1.heap.size = gv := by omega
  have ne_L_F : ¬ lv = v1.heap.size := by omega
  have en_L_F : ¬ v1.heap.size = lv := by omega
  have ne_O_F : ¬ ob = v1.heap.size := by omega
  have en_O_F : ¬ v1.heap.size = ob := by omega
  refine (HD.out _ (by go_simp) (by go_simp) (by go_simp) (by go_simp)).mono ?_
  rintro e v2 ⟨rfl, ⟨V_2, V_2'⟩, ⟨L_2, L_2'⟩, hA2⟩
  obtain ⟨O_2, O_2'⟩ : Row v2 ob csO := hA2.row ⟨by go_simp, by go_simp⟩ (by omega) (by omega)
  obtain ⟨F_2, F_2'⟩ : Row v2 v1.heap.size #[.int .i64 m, .int .i64 p0, .int .i64 p1, .bool o0, .bool o1, .bool sp, .int .u32 a, .int .u32 b] := hA2.row ⟨by go_simp, by go_simp⟩ (by omega) (by omega)
  have hB_2 : Below w.heap.size w v2 := hA2.below (by go_simp) (by first | omega | (go_simp; done) | (go_simp; omega)) (by first | omega | (go_simp; done) | (go_simp; omega)) (by first | (go_simp; done) | (go_simp; omega) | exact Below.size (by assumption))
  clear V_1 V_1' L_1 L_1' O_1 O_1' hB_1 hA2
  have hz_2 : w.heap.size ≤ v2.heap.size := hB_2.size
  have hl_V_2 := isRow.lt V_2
  have ne_V_2_0 : ¬ gv = v2.heap.size := by omega
  have en_V_2_0 : ¬ v2.heap.size = gv := by omega
  have ne_V_2_1 : ¬ gv = v2.heap.size + 1 := by omega
  have en_V_2_1 : ¬ v2.heap.size + 1 = gv := by omega
  have hl_L_2 := isRow.lt L_2
  have ne_L_2_0 : ¬ lv = v2.heap.size := by omega
  have en_L_2_0 : ¬ v2.heap.size = lv := by omega
  have ne_L_2_1 : ¬ lv = v2.heap.size + 1 := by omega
  have en_L_2_1 : ¬ v2.heap.size + 1 = lv := by omega
  have hl_O_2 := isRow.lt O_2
  have ne_O_2_0 : ¬ ob = v2.heap.size := by omega
  have en_O_2_0 : ¬ v2.heap.size = ob := by omega
  have ne_O_2_1 : ¬ ob = v2.heap.size + 1 := by omega
  have en_O_2_1 : ¬ v2.heap.size + 1 = ob := by omega
  have hl_F_2 := isRow.lt F_2
  have ne_F_2_0 : ¬ v1.heap.size = v2.heap.size := by omega
  have en_F_2_0 : ¬ v2.heap.size = v1.heap.size := by omega
  have ne_F_2_1 : ¬ v1.heap.size = v2.heap.size + 1 := by omega
  have en_F_2_1 : ¬ v2.heap.size + 1 = v1.heap.size := by omega
  go_wp2_with fail
  have ne_V_E : ¬ gv = v2.heap.size := by omega
  have en_V_E : ¬ v2.heap.size = gv := by omega
  have ne_L_E : ¬ lv = v2.heap.size := by omega
  have en_L_E : ¬ v2.heap.size = lv := by omega
  have ne_O_E : ¬ ob = v2.heap.size := by omega
  have en_O_E : ¬ v2.heap.size = ob := by omega
  have ne_F_E : ¬ v1.heap.size = v2.heap.size := by omega
  have en_F_E : ¬ v2.heap.size = v1.heap.size := by omega
  refine wp_named (fun W_ => (isRow W_ gv ∧ rowAt W_ gv = #[.int .i64 m, .int .i64 p0, .int .i64 p1, .bool o0, .bool o1, .bool sp, .int .u32 a, .int .u32 b, .slice (some ⟨lv, 0, none⟩) ys.length ys.length, .int .i64 lost]) ∧ (isRow W_ lv ∧ rowAt W_ lv = (FA ys)) ∧ (isRow W_ ob ∧ rowAt W_ ob = csO) ∧ (isRow W_ v1.heap.size ∧ rowAt W_ v1.heap.size = #[.int .i64 m, .int .i64 p0, .int .i64 p1, .bool o0, .bool o1, .bool sp, .int .u32 a, .int .u32 b]) ∧ (isRow W_ v2.heap.size ∧ rowAt W_ v2.heap.size = #[.bool false, .int .i64 (-1)]) ∧ Below w.heap.size w W_) (by refine ⟨⟨by go_simp, by go_simp⟩, ⟨by go_simp, by go_simp⟩, ⟨by go_simp, by go_simp⟩, ⟨by go_simp, by go_simp⟩, ⟨by go_simp, by go_simp⟩, by go_simp⟩) ?_
  rintro v3 ⟨⟨V_3, V_3'⟩, ⟨L_3, L_3'⟩, ⟨O_3, O_3'⟩, ⟨F_3, F_3'⟩, ⟨E_3, E_3'⟩, hB_3⟩
  clear V_2 V_2' L_2 L_2' O_2 O_2' F_2 F_2' hB_2
  have hz_3 : w.heap.size ≤ v3.heap.size := hB_3.size
  have hl_V_3 := isRow.lt V_3
  have ne_V_3_0 : ¬ gv = v3.heap.size := by omega
  have en_V_3_0 : ¬ v3.heap.size = gv := by omega
  have ne_V_3_1 : ¬ gv = v3.heap.size + 1 := by omega
  have en_V_3_1 : ¬ v3.heap.size + 1 = gv := by omega
  have hl_L_3 := isRow.lt L_3
  have ne_L_3_0 : ¬ lv = v3.heap.size := by omega
  have en_L_3_0 : ¬ v3.heap.size = lv := by omega
  have ne_L_3_1 : ¬ lv = v3.heap.size + 1 := by omega
  have en_L_3_1 : ¬ v3.heap.size + 1 = lv := by omega
  have hl_O_3 := isRow.lt O_3
  have ne_O_3_0 : ¬ ob = v3.heap.size := by omega
  have en_O_3_0 : ¬ v3.heap.size = ob := by omega
  have ne_O_3_1 : ¬ ob = v3.heap.size + 1 := by omega
  have en_O_3_1 : ¬ v3.heap.size + 1 = ob := by omega
  have hl_F_3 := isRow.lt F_3
  have ne_F_3_0 : ¬ v1.heap.size = v3.heap.size := by omega
  have en_F_3_0 : ¬ v3.heap.size = v1.heap.size := by omega
  have ne_F_3_1 : ¬ v1.heap.size = v3.heap.size + 1 := by omega
  have en_F_3_1 : ¬ v3.heap.size + 1 = v1.heap.size := by omega
  have hl_E_3 := isRow.lt E_3
  have ne_E_3_0 : ¬ v2.heap.size = v3.heap.size := by omega
  have en_E_3_0 : ¬ v3.heap.size = v2.heap.size := by omega
  have ne_E_3_1 : ¬ v2.heap.size = v3.heap.size + 1 := by omega
  have en_E_3_1 : ¬ v3.heap.size + 1 = v2.heap.size := by omega
  refine wp_region_held_drew (S := fun w' => isRow w' gv ∧ rowAt w' gv = #[.int .i64 m, .int .i64 p0, .int .i64 p1, .bool o0, .bool o1, .bool sp, .int .u32 a, .int .u32 b, .slice (some ⟨lv, 0, none⟩) ys.length ys.length, .int .i64 lost] ∧ isRow w' lv ∧ rowAt w' lv = (FA ys) ∧ isRow w' ob ∧ rowAt w' ob = csO ∧ isRow w' v1.heap.size ∧ rowAt w' v1.heap.size = #[.int .i64 m, .int .i64 p0, .int .i64 p1, .bool o0, .bool o1, .bool sp, .int .u32 a, .int .u32 b] ∧ isRow w' v2.heap.size ∧ rowAt w' v2.heap.size = #[.bool false, .int .i64 (-1)] ∧ Below w.heap.size w w') (by kernel_rfl) ⟨by go_simp, by go_simp, by go_simp, by go_simp, by go_simp, by go_simp, by go_simp, by go_simp, by go_simp, by go_simp, by go_simp⟩ (fun hHeld => ?_)
  refine wpAnyH_take (i := 0) (oi := { dst := some 78, op := Op.move (Operand.tmp 15), type := 22, pos := "law.go:305", after := #[], guard := none }) (v := ?_) rfl (by kernel_rfl) (by kernel_rfl) (by kernel_rfl) (fun _ _ _ h => h) (Or.inl ⟨by rfl, ?_⟩) (by assumption) ?_
  rotate_left
  · (intro w_ hS_; (try dsimp only at hS_); (try go_split_ands); go_simp; try with_reducible rfl)
  try simp only [Act.put, List.setIfInBounds_toArray, List.set_cons_zero, List.set_cons_succ]
  refine wpAnyH_take (i := 1) (oi := { dst := some 79, op := Op.move (Operand.tmp 14), type := 24, pos := "law.go:305", after := #[], guard := none }) (v := ?_) rfl (by kernel_rfl) (by kernel_rfl) (by kernel_rfl) (fun _ _ _ h => h) (Or.inl ⟨by rfl, ?_⟩) (by assumption) ?_
  rotate_left
  · (intro w_ hS_; (try dsimp only at hS_); (try go_split_ands); go_simp; try with_reducible rfl)
  try simp only [Act.put, List.setIfInBounds_toArray, List.set_cons_zero, List.set_cons_succ]
  refine wpAnyH_take (i := 2) (oi := { dst := some 80, op := Op.nilCheck (Operand.tmp 79), type := 0, pos := "law.go:305", after := #[{ on := 1, ground := Ground.data }], guard := none }) (v := ?_) rfl (by kernel_rfl) (by kernel_rfl) (by kernel_rfl) (fun _ _ _ h => h) (Or.inl ⟨by rfl, ?_⟩) (by assumption) ?_
  rotate_left
  · (intro w_ hS_; (try dsimp only at hS_); (try go_split_ands); go_simp; try with_reducible rfl)
  try simp only [Act.put, List.setIfInBounds_toArray, List.set_cons_zero, List.set_cons_succ]
  refine wpAnyH_take (i := 3) (oi := { dst := some 81, op := Op.fieldAddr 37 (Operand.tmp 80) 1, type := 0, pos := "law.go:305", after := #[{ on := 2, ground := Ground.data }], guard := none }) (v := ?_) rfl (by kernel_rfl) (by kernel_rfl) (by kernel_rfl) (fun _ _ _ h => h) (Or.inl ⟨by rfl, ?_⟩) (by assumption) ?_
  rotate_left
  · (intro w_ hS_; (try dsimp only at hS_); (try go_split_ands); go_simp; try with_reducible rfl)
  try simp only [Act.put, List.setIfInBounds_toArray, List.set_cons_zero, List.set_cons_succ]
  refine wpAnyH_take (i := 4) (oi := { dst := some 82, op := Op.load 22 (Operand.tmp 81), type := 22, pos := "law.go:305", after := #[{ on := 3, ground := Ground.data }], guard := none }) (v := ?_) rfl (by kernel_rfl) (by kernel_rfl) (by kernel_rfl) (fun _ _ _ h => h) (Or.inl ⟨by rfl, ?_⟩) (by assumption) ?_
  rotate_left
  · (intro w_ hS_; (try dsimp only at hS_); (try go_split_ands); go_simp; try with_reducible rfl)
  try simp only [Act.put, List.setIfInBounds_toArray, List.set_cons_zero, List.set_cons_succ]
  refine wpAnyH_ready (rs := [5]) (by kernel_rfl) (by simp) ?_
  refine AllReadyH.cons (o := { dst := some 83, op := Op.call { callee := Callee.value (Operand.func 21), args := #[Operand.tmp 78, Operand.tmp 82], argTypes := #[22, 22] }, type := 4, pos := "law.go:305", after := #[{ on := 0, ground := Ground.data }, { on := 4, ground := Ground.data }], guard := none }) rfl (fun K hK => ?_) AllReadyH.nil
  · skip
    (have hq_ := hHeld; (try dsimp only at hq_))
    obtain ⟨PV_1q, PV_1q', PL_1q, PL_1q', PO_1q, PO_1q', PF_1q, PF_1q', PE_1q, PE_1q', hF_1q⟩ := hq_
    go_simp
    refine (same_c h16 (by assumption) (by assumption) hpO hcO (by assumption) (by assumption) (Nat.le_refl _)).mono ?_
    rintro e u1 ⟨rfl, hb⟩
    refine hK.out _ _ ?_ (fun hHeld => ?_)
    · exact ⟨rk1 PV_1q hb, rk2 PV_1q PV_1q' hb, rk1 PL_1q hb, rk2 PL_1q PL_1q' hb, rk1 PO_1q hb, rk2 PO_1q PO_1q' hb, rk1 PF_1q hb, rk2 PF_1q PF_1q' hb, rk1 PE_1q hb, rk2 PE_1q PE_1q' hb, bk hF_1q hF_1q.size hb⟩
    clear hK K
    try simp only [Act.put, List.setIfInBounds_toArray, List.set_cons_zero, List.set_cons_succ]
    refine wpAnyH_take (i := 6) (oi := { dst := some 84, op := Op.move (Operand.tmp 83), type := 4, pos := "law.go:305", after := #[{ on := 5, ground := Ground.data }, { on := 5, ground := Ground.chain }], guard := none }) (v := ?_) rfl (by kernel_rfl) (by kernel_rfl) (by kernel_rfl) (fun _ _ _ h => h) (Or.inl ⟨by rfl, ?_⟩) (by assumption) ?_
    rotate_left
    · (intro w_ hS_; (try dsimp only at hS_); (try go_split_ands); go_simp; try with_reducible rfl)
    try simp only [Act.put, List.setIfInBounds_toArray, List.set_cons_zero, List.set_cons_succ]
    refine wpAnyH_take (i := 7) (oi := { dst := some 85, op := Op.load 57 (Operand.tmp 18), type := 57, pos := "law.go:305", after := #[{ on := 6, ground := Ground.guard }], guard := some (6, true) }) (v := ?_) rfl (by kernel_rfl) (by kernel_rfl) (by kernel_rfl) (fun _ _ _ h => h) (Or.inl ⟨by rfl, ?_⟩) (by assumption) ?_
    rotate_left
    · (intro w_ hS_; (try dsimp only at hS_); (try go_split_ands); go_simp; try with_reducible rfl)
    try simp only [Act.put, List.setIfInBounds_toArray, List.set_cons_zero, List.set_cons_succ]
    refine wpAnyH_take (i := 8) (oi := { dst := some 86, op := Op.build 57 #[(1, Operand.const (Value.int IntKind.i64 (-1)))], type := 57, pos := "law.go:305", after := #[{ on := 6, ground := Ground.guard }], guard := some (6, true) }) (v := ?_) rfl (by kernel_rfl) (by kernel_rfl) (by kernel_rfl) (fun _ _ _ h => h) (Or.inl ⟨by rfl, ?_⟩) (by assumption) ?_
    rotate_left
    · (intro w_ hS_; (try dsimp only at hS_); (try go_split_ands); go_simp; try with_reducible rfl)
    try simp only [Act.put, List.setIfInBounds_toArray, List.set_cons_zero, List.set_cons_succ]
    refine wpAnyH_take (i := 9) (oi := { dst := some 87, op := Op.binOp BinOp.eql 57 (Operand.tmp 85) (Operand.tmp 86) 57, type := 4, pos := "law.go:305", after := #[{ on := 7, ground := Ground.data }, { on := 8, ground := Ground.data }, { on := 6, ground := Ground.guard }], guard := some (6, true) }) (v := ?_) rfl (by kernel_rfl) (by kernel_rfl) (by kernel_rfl) (fun _ _ _ h => h) (Or.inl ⟨by rfl, ?_⟩) (by assumption) ?_
    rotate_left
    · (intro w_ hS_; (try dsimp only at hS_); (try go_split_ands); go_simp; try with_reducible rfl)
    try simp only [Act.put, List.setIfInBounds_toArray, List.set_cons_zero, List.set_cons_succ]
    refine wpAnyH_take (i := 10) (oi := { dst := some 88, op := Op.pick (Operand.tmp 84) (Operand.tmp 87) (Operand.const (Value.bool false)), type := 4, pos := "law.go:305", after := #[{ on := 6, ground := Ground.data }, { on := 9, ground := Ground.data }], guard := none }) (v := ?_) rfl (by kernel_rfl) (by kernel_rfl) (by kernel_rfl) (fun _ _ _ h => h) (Or.inl ⟨by rfl, ?_⟩) (by assumption) ?_
    rotate_left
    · (intro w_ hS_; (try dsimp only at hS_); (try go_split_ands); go_simp; try with_reducible rfl)
    try simp only [Act.put, List.setIfInBounds_toArray, List.set_cons_zero, List.set_cons_succ]
    refine wpAnyH_take (i := 11) (oi := { dst := some 89, op := Op.move (Operand.tmp 88), type := 4, pos := "law.go:305", after := #[{ on := 10, ground := Ground.data }, { on := 6, ground := Ground.chain }], guard := none }) (v := ?_) rfl (by kernel_rfl) (by kernel_rfl) (by kernel_rfl) (fun _ _ _ h => h) (Or.inl ⟨by rfl, ?_⟩) (by assumption) ?_
    rotate_left
    · (intro w_ hS_; (try dsimp only at hS_); (try go_split_ands); go_simp; try with_reducible rfl)
    try simp only [Act.put, List.setIfInBounds_toArray, List.set_cons_zero, List.set_cons_succ]
    refine wpAnyH_take (i := 12) (oi := { dst := some 90, op := Op.move (Operand.tmp 4), type := 4, pos := "law.go:305", after := #[{ on := 11, ground := Ground.guard }], guard := some (11, true) }) (v := ?_) rfl (by kernel_rfl) (by kernel_rfl) (by kernel_rfl) (fun _ _ _ h => h) (Or.inl ⟨by rfl, ?_⟩) (by assumption) ?_
    rotate_left
    · (intro w_ hS_; (try dsimp only at hS_); (try go_split_ands); go_simp; try with_reducible rfl)
    try simp only [Act.put, List.setIfInBounds_toArray, List.set_cons_zero, List.set_cons_succ]
    refine wpAnyH_take (i := 13) (oi := { dst := some 91, op := Op.move (Operand.tmp 90), type := 4, pos := "law.go:305", after := #[{ on := 12, ground := Ground.data }, { on := 11, ground := Ground.chain }, { on := 11, ground := Ground.guard }], guard := some (11, true) }) (v := ?_) rfl (by kernel_rfl) (by kernel_rfl) (by kernel_rfl) (fun _ _ _ h => h) (Or.inl ⟨by rfl, ?_⟩) (by assumption) ?_
    rotate_left
    · (intro w_ hS_; (try dsimp only at hS_); (try go_split_ands); go_simp; try with_reducible rfl)
    try simp only [Act.put, List.setIfInBounds_toArray, List.set_cons_zero, List.set_cons_succ]
    refine wpAnyH_take (i := 14) (oi := { dst := some 92, op := Op.move (Operand.tmp 19), type := 4, pos := "law.go:305", after := #[{ on := 13, ground := Ground.guard }], guard := some (13, true) }) (v := ?_) rfl (by kernel_rfl) (by kernel_rfl) (by kernel_rfl) (fun _ _ _ h => h) (Or.inl ⟨by rfl, ?_⟩) (by assumption) ?_
    rotate_left
    · (intro w_ hS_; (try dsimp only at hS_); (try go_split_ands); go_simp; try with_reducible rfl)
    try simp only [Act.put, List.setIfInBounds_toArray, List.set_cons_zero, List.set_cons_succ]
    refine wpAnyH_take (i := 15) (oi := { dst := some 93, op := Op.pick (Operand.tmp 91) (Operand.tmp 92) (Operand.const (Value.bool false)), type := 4, pos := "law.go:305", after := #[{ on := 13, ground := Ground.data }, { on := 14, ground := Ground.data }, { on := 11, ground := Ground.guard }], guard := some (11, true) }) (v := ?_) rfl (by kernel_rfl) (by kernel_rfl) (by kernel_rfl) (fun _ _ _ h => h) (Or.inl ⟨by rfl, ?_⟩) (by assumption) ?_
    rotate_left
    · (intro w_ hS_; (try dsimp only at hS_); (try go_split_ands); go_simp; try with_reducible rfl)
    try simp only [Act.put, List.setIfInBounds_toArray, List.set_cons_zero, List.set_cons_succ]
    refine wpAnyH_take (i := 16) (oi := { dst := some 94, op := Op.move (Operand.tmp 93), type := 4, pos := "law.go:305", after := #[{ on := 15, ground := Ground.data }, { on := 13, ground := Ground.chain }, { on := 11, ground := Ground.guard }], guard := some (11, true) }) (v := ?_) rfl (by kernel_rfl) (by kernel_rfl) (by kernel_rfl) (fun _ _ _ h => h) (Or.inl ⟨by rfl, ?_⟩) (by assumption) ?_
    rotate_left
    · (intro w_ hS_; (try dsimp only at hS_); (try go_split_ands); go_simp; try with_reducible rfl)
    try simp only [Act.put, List.setIfInBounds_toArray, List.set_cons_zero, List.set_cons_succ]
    refine wpAnyH_take (i := 17) (oi := { dst := some 95, op := Op.move (Operand.tmp 14), type := 24, pos := "law.go:305", after := #[{ on := 16, ground := Ground.guard }], guard := some (16, false) }) (v := ?_) rfl (by kernel_rfl) (by kernel_rfl) (by kernel_rfl) (fun _ _ _ h => h) (Or.inl ⟨by rfl, ?_⟩) (by assumption) ?_
    rotate_left
    · (intro w_ hS_; (try dsimp only at hS_); (try go_split_ands); go_simp; try with_reducible rfl)
    try simp only [Act.put, List.setIfInBounds_toArray, List.set_cons_zero, List.set_cons_succ]
    refine wpAnyH_take (i := 18) (oi := { dst := some 96, op := Op.nilCheck (Operand.tmp 95), type := 0, pos := "law.go:305", after := #[{ on := 17, ground := Ground.data }, { on := 16, ground := Ground.guard }], guard := some (16, false) }) (v := ?_) rfl (by kernel_rfl) (by kernel_rfl) (by kernel_rfl) (fun _ _ _ h => h) (Or.inl ⟨by rfl, ?_⟩) (by assumption) ?_
    rotate_left
    · (intro w_ hS_; (try dsimp only at hS_); (try go_split_ands); go_simp; try with_reducible rfl)
    try simp only [Act.put, List.setIfInBounds_toArray, List.set_cons_zero, List.set_cons_succ]
    refine wpAnyH_take (i := 19) (oi := { dst := some 97, op := Op.fieldAddr 37 (Operand.tmp 96) 0, type := 0, pos := "law.go:305", after := #[{ on := 18, ground := Ground.data }, { on := 16, ground := Ground.guard }], guard := some (16, false) }) (v := ?_) rfl (by kernel_rfl) (by kernel_rfl) (by kernel_rfl) (fun _ _ _ h => h) (Or.inl ⟨by rfl, ?_⟩) (by assumption) ?_
    rotate_left
    · (intro w_ hS_; (try dsimp only at hS_); (try go_split_ands); go_simp; try with_reducible rfl)
    try simp only [Act.put, List.setIfInBounds_toArray, List.set_cons_zero, List.set_cons_succ]
    refine wpAnyH_take (i := 20) (oi := { dst := some 98, op := Op.load 35 (Operand.tmp 97), type := 35, pos := "law.go:305", after := #[{ on := 19, ground := Ground.data }, { on := 16, ground := Ground.guard }], guard := some (16, false) }) (v := ?_) rfl (by kernel_rfl) (by kernel_rfl) (by kernel_rfl) (fun _ _ _ h => h) (Or.inl ⟨by rfl, ?_⟩) (by assumption) ?_
    rotate_left
    · (intro w_ hS_; (try dsimp only at hS_); (try go_split_ands); go_simp; try with_reducible rfl)
    try simp only [Act.put, List.setIfInBounds_toArray, List.set_cons_zero, List.set_cons_succ]
    refine wpAnyH_take (i := 21) (oi := { dst := some 99, op := Op.load 35 (Operand.tmp 16), type := 35, pos := "law.go:305", after := #[{ on := 16, ground := Ground.guard }], guard := some (16, false) }) (v := ?_) rfl (by kernel_rfl) (by kernel_rfl) (by kernel_rfl) (fun _ _ _ h => h) (Or.inl ⟨by rfl, ?_⟩) (by assumption) ?_
    rotate_left
    · (intro w_ hS_; (try dsimp only at hS_); (try go_split_ands); go_simp; try with_reducible rfl)
    try simp only [Act.put, List.setIfInBounds_toArray, List.set_cons_zero, List.set_cons_succ]
    refine wpAnyH_take (i := 22) (oi := { dst := some 100, op := Op.binOp BinOp.eql 35 (Operand.tmp 98) (Operand.tmp 99) 35, type := 4, pos := "law.go:305", after := #[{ on := 20, ground := Ground.data }, { on := 21, ground := Ground.data }, { on := 16, ground := Ground.guard }], guard := some (16, false) }) (v := ?_) rfl (by kernel_rfl) (by kernel_rfl) (by kernel_rfl) (fun _ _ _ h => h) (Or.inl ⟨by rfl, ?_⟩) (by assumption) ?_
    rotate_left
    · (intro w_ hS_; (try dsimp only at hS_); (try go_split_ands); go_simp; try with_reducible rfl)
    try simp only [Act.put, List.setIfInBounds_toArray, List.set_cons_zero, List.set_cons_succ]
    refine wpAnyH_take (i := 23) (oi := { dst := some 101, op := Op.pick (Operand.tmp 94) (Operand.const (Value.bool true)) (Operand.tmp 100), type := 4, pos := "law.go:305", after := #[{ on := 16, ground := Ground.data }, { on := 22, ground := Ground.data }, { on := 11, ground := Ground.guard }], guard := some (11, true) }) (v := ?_) rfl (by kernel_rfl) (by kernel_rfl) (by kernel_rfl) (fun _ _ _ h => h) (Or.inl ⟨by rfl, ?_⟩) (by assumption) ?_
    rotate_left
    · (intro w_ hS_; (try dsimp only at hS_); (try go_split_ands); go_simp; try with_reducible rfl)
    try simp only [Act.put, List.setIfInBounds_toArray, List.set_cons_zero, List.set_cons_succ]
    refine wpAnyH_take (i := 24) (oi := { dst := some 102, op := Op.pick (Operand.tmp 89) (Operand.tmp 101) (Operand.const (Value.bool false)), type := 4, pos := "law.go:305", after := #[{ on := 11, ground := Ground.data }, { on := 23, ground := Ground.data }], guard := none }) (v := ?_) rfl (by kernel_rfl) (by kernel_rfl) (by kernel_rfl) (fun _ _ _ h => h) (Or.inl ⟨by rfl, ?_⟩) (by assumption) ?_
    rotate_left
    · (intro w_ hS_; (try dsimp only at hS_); (try go_split_ands); go_simp; try with_reducible rfl)
    try simp only [Act.put, List.setIfInBounds_toArray, List.set_cons_zero, List.set_cons_succ]
    refine wpAnyH_take (i := 25) (oi := { dst := some 103, op := Op.move (Operand.tmp 102), type := 4, pos := "law.go:305", after := #[{ on := 24, ground := Ground.data }, { on := 16, ground := Ground.chain }], guard := none }) (v := ?_) rfl (by kernel_rfl) (by kernel_rfl) (by kernel_rfl) (fun _ _ _ h => h) (Or.inl ⟨by rfl, ?_⟩) (by assumption) ?_
    rotate_left
    · (intro w_ hS_; (try dsimp only at hS_); (try go_split_ands); go_simp; try with_reducible rfl)
    try simp only [Act.put, List.setIfInBounds_toArray, List.set_cons_zero, List.set_cons_succ]
    refine wpAnyH_take (i := 26) (oi := { dst := some 104, op := Op.move (Operand.tmp 19), type := 4, pos := "law.go:305", after := #[{ on := 25, ground := Ground.guard }], guard := some (25, true) }) (v := ?_) rfl (by kernel_rfl) (by kernel_rfl) (by kernel_rfl) (fun _ _ _ h => h) (Or.inl ⟨by rfl, ?_⟩) (by assumption) ?_
    rotate_left
    · (intro w_ hS_; (try dsimp only at hS_); (try go_split_ands); go_simp; try with_reducible rfl)
    try simp only [Act.put, List.setIfInBounds_toArray, List.set_cons_zero, List.set_cons_succ]
    refine wpAnyH_take (i := 27) (oi := { dst := some 105, op := Op.move (Operand.tmp 104), type := 4, pos := "law.go:305", after := #[{ on := 26, ground := Ground.data }, { on := 25, ground := Ground.chain }, { on := 25, ground := Ground.guard }], guard := some (25, true) }) (v := ?_) rfl (by kernel_rfl) (by kernel_rfl) (by kernel_rfl) (fun _ _ _ h => h) (Or.inl ⟨by rfl, ?_⟩) (by assumption) ?_
    rotate_left
    · (intro w_ hS_; (try dsimp only at hS_); (try go_split_ands); go_simp; try with_reducible rfl)
    try simp only [Act.put, List.setIfInBounds_toArray, List.set_cons_zero, List.set_cons_succ]
    refine wpAnyH_take (i := 28) (oi := { dst := some 106, op := Op.move (Operand.tmp 4), type := 4, pos := "law.go:305", after := #[{ on := 27, ground := Ground.guard }], guard := some (27, false) }) (v := ?_) rfl (by kernel_rfl) (by kernel_rfl) (by kernel_rfl) (fun _ _ _ h => h) (Or.inl ⟨by rfl, ?_⟩) (by assumption) ?_
    rotate_left
    · (intro w_ hS_; (try dsimp only at hS_); (try go_split_ands); go_simp; try with_reducible rfl)
    try simp only [Act.put, List.setIfInBounds_toArray, List.set_cons_zero, List.set_cons_succ]
    refine wpAnyH_take (i := 29) (oi := { dst := some 107, op := Op.unOp UnOp.not 4 (Operand.tmp 106), type := 4, pos := "law.go:305", after := #[{ on := 28, ground := Ground.data }, { on := 27, ground := Ground.guard }], guard := some (27, false) }) (v := ?_) rfl (by kernel_rfl) (by kernel_rfl) (by kernel_rfl) (fun _ _ _ h => h) (Or.inl ⟨by rfl, ?_⟩) (by assumption) ?_
    rotate_left
    · (intro w_ hS_; (try dsimp only at hS_); (try go_split_ands); go_simp; try with_reducible rfl)
    try simp only [Act.put, List.setIfInBounds_toArray, List.set_cons_zero, List.set_cons_succ]
    refine wpAnyH_take (i := 30) (oi := { dst := some 108, op := Op.pick (Operand.tmp 105) (Operand.const (Value.bool true)) (Operand.tmp 107), type := 4, pos := "law.go:305", after := #[{ on := 27, ground := Ground.data }, { on := 29, ground := Ground.data }, { on := 25, ground := Ground.guard }], guard := some (25, true) }) (v := ?_) rfl (by kernel_rfl) (by kernel_rfl) (by kernel_rfl) (fun _ _ _ h => h) (Or.inl ⟨by rfl, ?_⟩) (by assumption) ?_
    rotate_left
    · (intro w_ hS_; (try dsimp only at hS_); (try go_split_ands); go_simp; try with_reducible rfl)
    try simp only [Act.put, List.setIfInBounds_toArray, List.set_cons_zero, List.set_cons_succ]
    refine wpAnyH_take (i := 31) (oi := { dst := some 109, op := Op.move (Operand.tmp 108), type := 4, pos := "law.go:305", after := #[{ on := 30, ground := Ground.data }, { on := 27, ground := Ground.chain }, { on := 25, ground := Ground.guard }], guard := some (25, true) }) (v := ?_) rfl (by kernel_rfl) (by kernel_rfl) (by kernel_rfl) (fun _ _ _ h => h) (Or.inl ⟨by rfl, ?_⟩) (by assumption) ?_
    rotate_left
    · (intro w_ hS_; (try dsimp only at hS_); (try go_split_ands); go_simp; try with_reducible rfl)
    try simp only [Act.put, List.setIfInBounds_toArray, List.set_cons_zero, List.set_cons_succ]
    refine wpAnyH_take (i := 33) (oi := { dst := some 111, op := Op.move (Operand.tmp 3), type := 66, pos := "law.go:305", after := #[{ on := 31, ground := Ground.guard }], guard := some (31, false) }) (v := ?_) rfl (by kernel_rfl) (by kernel_rfl) (by kernel_rfl) (fun _ _ _ h => h) (Or.inl ⟨by rfl, ?_⟩) (by assumption) ?_
    rotate_left
    · (intro w_ hS_; (try dsimp only at hS_); (try go_split_ands); go_simp; try with_reducible rfl)
    try simp only [Act.put, List.setIfInBounds_toArray, List.set_cons_zero, List.set_cons_succ]
    refine wpAnyH_ready (rs := [32]) (by kernel_rfl) (by simp) ?_
    refine AllReadyH.cons (o := { dst := some 110, op := Op.buildSlice 71 3 #[(0, Operand.const (Value.int IntKind.i64 6)), (1, Operand.const (Value.int IntKind.i64 7)), (2, Operand.const (Value.int IntKind.i64 8))], type := 71, pos := "law.go:305", after := #[{ on := 31, ground := Ground.guard }], guard := some (31, false) }) rfl (fun K hK => ?_) AllReadyH.nil
    · skip
      (have hq_ := hHeld; (try dsimp only at hq_))
      obtain ⟨PV_2q, PV_2q', PL_2q, PL_2q', PO_2q, PO_2q', PF_2q, PF_2q', PE_2q, PE_2q', hF_2q⟩ := hq_
      go_simp
      have nb_V_2 : ¬ gv = u1.heap.size := by have := isRow.lt PV_2q; (try simp only [size_drew_] at this); (try simp only [World.size_alloc] at this); omega
      have bn_V_2 : ¬ u1.heap.size = gv := by omega
      have nb_L_2 : ¬ lv = u1.heap.size := by have := isRow.lt PL_2q; (try simp only [size_drew_] at this); (try simp only [World.size_alloc] at this); omega
      have bn_L_2 : ¬ u1.heap.size = lv := by omega
      have nb_O_2 : ¬ ob = u1.heap.size := by have := isRow.lt PO_2q; (try simp only [size_drew_] at this); (try simp only [World.size_alloc] at this); omega
      have bn_O_2 : ¬ u1.heap.size = ob := by omega
      have nb_F_2 : ¬ v1.heap.size = u1.heap.size := by have := isRow.lt PF_2q; (try simp only [size_drew_] at this); (try simp only [World.size_alloc] at this); omega
      have bn_F_2 : ¬ u1.heap.size = v1.heap.size := by omega
      have nb_E_2 : ¬ v2.heap.size = u1.heap.size := by have := isRow.lt PE_2q; (try simp only [size_drew_] at this); (try simp only [World.size_alloc] at this); omega
      have bn_E_2 : ¬ u1.heap.size = v2.heap.size := by omega
      have hz_2 : w.heap.size ≤ u1.heap.size := by have := hF_2q.size; (try simp only [size_drew_] at this); (try simp only [World.size_alloc] at this); omega
      obtain ⟨NS_2, NS_2'⟩ : Row (u1.alloc (.cells #[.int .i64 6, .int .i64 7, .int .i64 8] 3)) u1.heap.size #[.int .i64 6, .int .i64 7, .int .i64 8] := by first | exact Row.new _ _ _ | exact ⟨by go_simp, by go_simp⟩
      refine hK.out _ _ ?_ (fun hHeld => ?_)
      · exact ⟨isRow_alloc PV_2q, (rowAt_alloc PV_2q).trans PV_2q', isRow_alloc PL_2q, (rowAt_alloc PL_2q).trans PL_2q', isRow_alloc PO_2q, (rowAt_alloc PO_2q).trans PO_2q', isRow_alloc PF_2q, (rowAt_alloc PF_2q).trans PF_2q', isRow_alloc PE_2q, (rowAt_alloc PE_2q).trans PE_2q', hF_2q.alloc hF_2q.size _⟩
      clear hK K
      try simp only [Act.put, List.setIfInBounds_toArray, List.set_cons_zero, List.set_cons_succ]
      refine wpAnyH_ready (rs := [34]) (by kernel_rfl) (by simp) ?_
      refine AllReadyH.cons (o := { dst := some 112, op := Op.call { callee := Callee.value (Operand.func 29), args := #[Operand.tmp 110, Operand.tmp 111], argTypes := #[71, 3] }, type := 4, pos := "law.go:305", after := #[{ on := 32, ground := Ground.data }, { on := 33, ground := Ground.data }, { on := 31, ground := Ground.chain }, { on := 31, ground := Ground.guard }], guard := some (31, false) }) rfl (fun K hK => ?_) AllReadyH.nil
      · skip
        (have hq_ := hHeld; (try dsimp only at hq_))
        obtain ⟨PV_3q, PV_3q', PL_3q, PL_3q', PO_3q, PO_3q', PF_3q, PF_3q', PE_3q, PE_3q', hF_3q⟩ := hq_
        go_simp
        refine (has_c (by assumption) (by assumption) r r6 r7 r8).mono ?_
        rintro e u3 ⟨rfl, hb⟩
        obtain ⟨NS_3, NS_3'⟩ := Row.step NS_2 NS_2' hb
        refine hK.out _ _ ?_ (fun hHeld => ?_)
        · exact ⟨rk1 PV_3q hb, rk2 PV_3q PV_3q' hb, rk1 PL_3q hb, rk2 PL_3q PL_3q' hb, rk1 PO_3q hb, rk2 PO_3q PO_3q' hb, rk1 PF_3q hb, rk2 PF_3q PF_3q' hb, rk1 PE_3q hb, rk2 PE_3q PE_3q' hb, bk hF_3q hF_3q.size hb⟩
        clear hK K
        try simp only [Act.put, List.setIfInBounds_toArray, List.set_cons_zero, List.set_cons_succ]
        refine wpAnyH_take (i := 35) (oi := { dst := some 113, op := Op.unOp UnOp.not 4 (Operand.tmp 112), type := 4, pos := "law.go:305", after := #[{ on := 34, ground := Ground.data }, { on := 31, ground := Ground.guard }], guard := some (31, false) }) (v := ?_) rfl (by kernel_rfl) (by kernel_rfl) (by kernel_rfl) (fun _ _ _ h => h) (Or.inl ⟨by rfl, ?_⟩) (by assumption) ?_
        rotate_left
        · (intro w_ hS_; (try dsimp only at hS_); (try go_split_ands); go_simp; try with_reducible rfl)
        try simp only [Act.put, List.setIfInBounds_toArray, List.set_cons_zero, List.set_cons_succ]
        refine wpAnyH_take (i := 36) (oi := { dst := some 114, op := Op.pick (Operand.tmp 109) (Operand.const (Value.bool true)) (Operand.tmp 113), type := 4, pos := "law.go:305", after := #[{ on := 31, ground := Ground.data }, { on := 35, ground := Ground.data }, { on := 25, ground := Ground.guard }], guard := some (25, true) }) (v := ?_) rfl (by kernel_rfl) (by kernel_rfl) (by kernel_rfl) (fun _ _ _ h => h) (Or.inl ⟨by rfl, ?_⟩) (by assumption) ?_
        rotate_left
        · (intro w_ hS_; (try dsimp only at hS_); (try go_split_ands); go_simp; try with_reducible rfl)
        try simp only [Act.put, List.setIfInBounds_toArray, List.set_cons_zero, List.set_cons_succ]
        refine wpAnyH_take (i := 37) (oi := { dst := some 115, op := Op.pick (Operand.tmp 103) (Operand.tmp 114) (Operand.const (Value.bool false)), type := 4, pos := "law.go:305", after := #[{ on := 25, ground := Ground.data }, { on := 36, ground := Ground.data }], guard := none }) (v := ?_) rfl (by kernel_rfl) (by kernel_rfl) (by kernel_rfl) (fun _ _ _ h => h) (Or.inl ⟨by rfl, ?_⟩) (by assumption) ?_
        rotate_left
        · (intro w_ hS_; (try dsimp only at hS_); (try go_split_ands); go_simp; try with_reducible rfl)
        try simp only [Act.put, List.setIfInBounds_toArray, List.set_cons_zero, List.set_cons_succ]
        refine wpAnyH_take (i := 38) (oi := { dst := some 12, op := Op.assign (Operand.tmp 115), type := 4, pos := "law.go:305", after := #[{ on := 37, ground := Ground.data }, { on := 34, ground := Ground.chain }, { on := 0, ground := Ground.phase }, { on := 1, ground := Ground.phase }, { on := 2, ground := Ground.phase }, { on := 3, ground := Ground.phase }, { on := 4, ground := Ground.phase }, { on := 5, ground := Ground.phase }, { on := 6, ground := Ground.phase }, { on := 7, ground := Ground.phase }, { on := 8, ground := Ground.phase }, { on := 9, ground := Ground.phase }, { on := 10, ground := Ground.phase }, { on := 11, ground := Ground.phase }, { on := 12, ground := Ground.phase }, { on := 13, ground := Ground.phase }, { on := 14, ground := Ground.phase }, { on := 15, ground := Ground.phase }, { on := 16, ground := Ground.phase }, { on := 17, ground := Ground.phase }, { on := 18, ground := Ground.phase }, { on := 19, ground := Ground.phase }, { on := 20, ground := Ground.phase }, { on := 21, ground := Ground.phase }, { on := 22, ground := Ground.phase }, { on := 23, ground := Ground.phase }, { on := 24, ground := Ground.phase }, { on := 25, ground := Ground.phase }, { on := 26, ground := Ground.phase }, { on := 27, ground := Ground.phase }, { on := 28, ground := Ground.phase }, { on := 29, ground := Ground.phase }, { on := 30, ground := Ground.phase }, { on := 31, ground := Ground.phase }, { on := 32, ground := Ground.phase }, { on := 33, ground := Ground.phase }, { on := 34, ground := Ground.phase }, { on := 35, ground := Ground.phase }, { on := 36, ground := Ground.phase }, { on := 37, ground := Ground.phase }], guard := none }) (v := ?_) rfl (by kernel_rfl) (by kernel_rfl) (by kernel_rfl) (fun _ _ _ h => h) (Or.inl ⟨by rfl, ?_⟩) (by assumption) ?_
        rotate_left
        · (intro w_ hS_; (try dsimp only at hS_); (try go_split_ands); go_simp; try with_reducible rfl)
        try simp only [Act.put, List.setIfInBounds_toArray, List.set_cons_zero, List.set_cons_succ]
        refine wpAnyH_done (by kernel_rfl) ?_ _
        (have hq_ := hHeld; (try dsimp only at hq_))
        obtain ⟨PV_4e, PV_4e', PL_4e, PL_4e', PO_4e, PO_4e', PF_4e, PF_4e', PE_4e, PE_4e', hF_4e⟩ := hq_
        have hF := hF_4e
        go_wp2
        go_ret
        exact ⟨rfl, hF⟩
theorem reads_law (c : Int) (c0 : 0 ≤ c) (m' p0' p1' : Int) (o0' o1' sp' : Bool) (a' b' : Int) (ha : 0 ≤ a') (ha2 : a' ≤ 4294967295) (hb : 0 ≤ b') (hb2 : b' ≤ 4294967295) (w : World) (B : Option Addr) (cB : Nat) (sc : List VA) (hS : ScOk w B sc) (r : Int) (wr : Bool) (x : Int) :
    Calls Try.prog 8 #[.int .u8 c, .agg #[.int .i64 m', .int .i64 p0', .int .i64 p1', .bool o0', .bool o1', .bool sp', .int .u32 a', .int .u32 b'], .slice B sc.length cB, .int .i64 r, .bool wr, .int .u64 x] w fun e w' => e = .returned (.bool true) ∧ Below w.heap.size w w' := by
  cases wr with
  | false =>
    by_cases h1 : r = 1
    · subst h1; exact reads_e1 c c0 m' p0' p1' o0' o1' sp' a' b' ha ha2 hb hb2 w B cB sc hS x
    by_cases h2 : r = 2
    · subst h2; exact reads_e2 c c0 m' p0' p1' o0' o1' sp' a' b' ha ha2 hb hb2 w B cB sc hS x
    have e1 : (r == 1) = false := nbeq h1
    have e2 : (r == 2) = false := nbeq h2
    by_cases h13 : r = 13
    · exact reads_at c c0 m' p0' p1' o0' o1' sp' a' b' ha ha2 hb hb2 w B cB sc hS r x (fun s => IntKind.u64.wrap (showN s 0)) (fun s => by unfold doV; rw [if_pos rfl, if_neg h1, if_neg h2, if_pos h13]) e1 e2
    by_cases h14 : r = 14
    · exact reads_at c c0 m' p0' p1' o0' o1' sp' a' b' ha ha2 hb hb2 w B cB sc hS r x (fun s => IntKind.u64.wrap (showN s 1)) (fun s => by unfold doV; rw [if_pos rfl, if_neg h1, if_neg h2, if_neg h13, if_pos h14]) e1 e2
    cases hok : rdOk r with
    | true => exact reads_at c c0 m' p0' p1' o0' o1' sp' a' b' ha ha2 hb hb2 w B cB sc hS r x (fun s => rdN r s.m s.p0 s.p1 s.o0 s.o1 s.sp s.a s.b) (fun s => by unfold doV; rw [if_pos rfl, if_neg h1, if_neg h2, if_neg h13, if_neg h14, hok]) e1 e2
    | false => exact reads_af c c0 m' p0' p1' o0' o1' sp' a' b' ha ha2 hb hb2 w B cB sc hS r x (fun s => rdN r s.m s.p0 s.p1 s.o0 s.o1 s.sp s.a s.b) (fun s => by unfold doV; rw [if_pos rfl, if_neg h1, if_neg h2, if_neg h13, if_neg h14, hok]) e1 e2
  | true =>
    by_cases h3 : r = 3
    · subst h3; exact reads_e3 c c0 m' p0' p1' o0' o1' sp' a' b' ha ha2 hb hb2 w B cB sc hS x
    by_cases h4 : r = 4
    · subst h4; exact reads_e4 c c0 m' p0' p1' o0' o1' sp' a' b' ha ha2 hb hb2 w B cB sc hS x
    by_cases h5 : r = 5
    · subst h5; exact reads_e5 c c0 m' p0' p1' o0' o1' sp' a' b' ha ha2 hb hb2 w B cB sc hS x
    have e3 : (r == 3) = false := nbeq h3
    have e4 : (r == 4) = false := nbeq h4
    have e5 : (r == 5) = false := nbeq h5
    cases hok : wOk r with
    | true => exact reads_b c c0 m' p0' p1' o0' o1' sp' a' b' ha ha2 hb hb2 w B cB sc hS r x (fun s => by unfold doV; rw [if_neg (by decide), if_neg h3, if_neg h4, if_neg h5, hok]) e3 e4 e5
    | false =>
      have hok0 := hok
      unfold wOk at hok
      simp only [Bool.or_eq_false_iff, beq_eq_false_iff_ne, ne_eq] at hok
      obtain ⟨⟨⟨⟨⟨r6, r7⟩, r8⟩, r9⟩, r10⟩, r11⟩ := hok
      have hw : ∀ s, writeS s r x = s := fun s => by unfold writeS wM wP0 wP1 wO0 wO1 wSp; simp [r6, r7, r8, r9, r10, r11]
      exact reads_c c c0 m' p0' p1' o0' o1' sp' a' b' ha ha2 hb hb2 w B cB sc hS r x (fun s => by unfold doV; rw [if_neg (by decide), if_neg h3, if_neg h4, if_neg h5, hok0, hw]) e3 e4 e5 r6 r7 r8
end Go.Proofs.Ytkbaghblchlcnaa.Lr
