/- The law VcpuDoes, walked. -/
import Derived.Test.YtkbaghblchlcnaaD28
namespace Go.Proofs.Ytkbaghblchlcnaa.Lr.Wd
open Go.RowKit Go.Shelf Go.Proofs.YtkbaghblchlcnaaW.PrintWords Go.Proofs.Ytkbaghblchlcnaa.IAll
theorem infoAct : (Try.prog.info? 80).map (·.size) = some 5 := by kernel_rfl
section
variable {w : World} {ρ : Operand → Value} {x y : Operand} {dst : Option Tmp} {t0 : TypeId} {pos : String} {af : Array Edge} {gd : Option (Nat × Bool)}
theorem storeAct (hx : ρ x = .pointer (some ⟨blk (ρ x), 0, none⟩)) (hy : ρ y = .agg (aggOf (ρ y))) (h : isRow w (blk (ρ x))) (hs : (rowAt w (blk (ρ x))).size = 5) (hc : (aggOf (ρ y)).size = 5) (h1 : AllOne (aggOf (ρ y))) : (execOp ρ { dst := dst, op := .store 80 x y, type := t0, pos := pos, after := af, guard := gd }).run Try.prog w = .ok .skip (w.setRow (blk (ρ x)) (aggOf (ρ y))) := run_store_op infoAct hx hy h hs hc h1
end
theorem FT_num {xs : List S54} (T : Array Value) (h0 : 0 < xs.length) (hst : stOk xs) : ∃ ys : List S54, ys.length = xs.length ∧ stOk ys ∧ (FT xs T).setIfInBounds 1 (.int .i64 77) = FT ys T := by
  cases xs with
  | nil => exact absurd h0 (by simp)
  | cons x xs =>
    refine ⟨{ x with f1 := 77 } :: xs, rfl, ?_, ?_⟩
    · intro k hk
      have := hst k hk
      cases k with
      | zero => exact this
      | succ k => exact this
    · unfold FT FA
      rw [fl_cons, fl_cons]
      apply Array.ext'
      simp [enc]
/-- both interfaces in one state -/
def Two (n : Nat) (w : World) (gr lr : Nat) (s : VS) (v : Value) (W : World) : Prop := ∃ gv lv cc T, v = .pointer (some ⟨gv, 0, none⟩) ∧ n ≤ cc ∧ Row W gv (vrow n cc lv s) ∧ Row W lv (FT s.xs T) ∧ Row W gr (rrow n lr s) ∧ Row W lr (FA s.xs) ∧ ¬ gv = lv ∧ ¬ gv = gr ∧ ¬ gv = lr ∧ ¬ lv = gr ∧ ¬ lv = lr ∧ w.heap.size ≤ gv ∧ w.heap.size ≤ lv ∧ Below w.heap.size w W
theorem old_ack (g bl n cc : Nat) (T : Array Value) (m p0 p1 : Int) (o0 o1 sp : Bool) (a b lost : Int) (xs : List S54) (hn : xs.length = n) (h16 : n ≤ 16) (hst : stOk xs) (hne : ¬ g = bl) (w : World) (hr : isRow w g) (hr' : rowAt w g = #[.int .i64 m, .int .i64 p0, .int .i64 p1, .bool o0, .bool o1, .bool sp, .int .u32 a, .int .u32 b, .slice (some ⟨bl, 0, none⟩) n cc, .int .i64 lost]) (hl : isRow w bl) (hl' : rowAt w bl = FT xs T) :
    Calls Try.prog 17 #[.pointer (some ⟨g, 0, none⟩), .int .i64 1] w fun e w' => ∃ v a2 b2 xs2, e = .returned v ∧ xs2.length = n ∧ stOk xs2 ∧ Row w' g #[.int .i64 m, .int .i64 p0, .int .i64 p1, .bool o0, .bool o1, .bool sp, .int .u32 a2, .int .u32 b2, .slice (some ⟨bl, 0, none⟩) n cc, .int .i64 lost] ∧ Row w' bl (FT xs2 T) ∧ Aside2 g bl w w' := by
  subst hn
  refine (ack_c g bl m p0 p1 o0 o1 sp a b xs cc T h16 lost 1 hne w hr hr' hl hl').mono ?_
  rintro e w' ⟨rfl, h1, h2, h3⟩
  exact ⟨_, _, _, _, rfl, ackXs_length _ _ _ _ _ _ _ _ _, ackXs_st _ _ _ _ _ _ _ _ _ hst, h1, h2, h3⟩
theorem alike_c (n cc : Nat) (T : Array Value) (gv lv gr lr : Nat) (s : VS) (h : SOk n s) (hab : Ab s) (hcc : n ≤ cc) (w : World)
    (h1 : Row w gv (vrow n cc lv s)) (h2 : Row w lv (FT s.xs T)) (h3 : Row w gr (rrow n lr s)) (h4 : Row w lr (FA s.xs)) (n12 : ¬ gv = lv) (n34 : ¬ gr = lr) :
    Calls Try.prog 32 #[.pointer (some ⟨gv, 0, none⟩), .pointer (some ⟨gr, 0, none⟩)] w fun e w' => e = .returned (.bool true) ∧ Below w.heap.size w w' := by
  obtain ⟨hlen, h16, -, -, -, -⟩ := h
  subst hlen
  exact alike_w cc T gv lv gr lr s.m s.p0 s.p1 s.o0 s.o1 s.sp s.a s.b s.xs s.lost h16 hcc hab.1 hab.2.1 hab.2.2.1 hab.2.2.2 w h1.1 h1.2 h2.1 h2.2 h3.1 h3.2 h4.1 h4.2 n12 n34
attribute [local go_sem] Oper.semAt_some cell_row frozen_row isRow_setCell_eq rowAt_setCell_same rowAt_setCell_other isRow_alloc_eq rowAt_alloc rowAt_new rowAt_new' isRow_setRow_eq rowAt_setRow_same rowAt_setRow_other isRow_drew rowAt_drew size_setRow_ Lb_size Lb_at blk_ptr aggOf_agg below_alloc_e below_setCell_e below_setRow_e below_refl_e below_drew_r aside2_alloc_e aside2_setCell_e aside2_setRow_e aside2_drew_e aside2_refl_e aside2_drewN_e isRow_drewN rowAt_drewN below_drewN_e le_add_r offv_ptr one_lad zero_lad allOne_nil allOne_cons Value.oneCell' addr_at FA_size one_FA RV_size RV_get70 RV_get71 RV_at70 RV_at71 RV_at5 RV_low RV_set71 RV_ext RV_spl RC_size
attribute [local go_sem ↓] storeI storeC storeE storeAct
attribute [local go_sem] eq2i eq2b eq2u
set_option maxRecDepth 100000 in
set_option maxHeartbeats 4000000 in
theorem does_law (c : Int) (c0 : 0 ≤ c) (m' p0' p1' : Int) (o0' o1' sp' : Bool) (a' b' : Int) (ha : 0 ≤ a') (ha2 : a' ≤ 4294967295) (hb : 0 ≤ b') (hb2 : b' ≤ 4294967295) (w : World) (B : Option Addr) (cB : Nat) (sc : List VA) (hS : ScOk w B sc)  :
    Calls Try.prog 10 #[.int .u8 c, .agg #[.int .i64 m', .int .i64 p0', .int .i64 p1', .bool o0', .bool o1', .bool sp', .int .u32 a', .int .u32 b'], .slice B sc.length cB] w fun e w' => e = .returned (.bool true) ∧ Below w.heap.size w w' := by
  obtain ⟨n, hn, h1, h2⟩ : ∃ n : Nat, 1 + c % 16 = (n : Int) ∧ 1 ≤ n ∧ n ≤ 16 := ⟨(1 + c % 16).toNat, by omega, by omega, by omega⟩
  have HO := Lib.hid (runA_ok n ⟨m', p0', p1', o0', o1', sp', a', b', List.replicate n z54, 0⟩ sc ⟨List.length_replicate, h2, by omega, rep_st n, Int.le_refl 0, by show (0 : Int) ≤ 4611686018427387904; omega⟩ rfl hS.len)
  have HAB := Lib.hid (runA_ab n ⟨m', p0', p1', o0', o1', sp', a', b', List.replicate n z54, 0⟩ sc ⟨ha, ha2, hb, hb2⟩)
  have HM := Lib.hid (fun W : World => made_c n h1 h2 c hn c0 m' p0' p1' o0' o1' sp' a' b' ha ha2 hb hb2 W)
  have HS := Lib.hid hS
  clear hS
  generalize hs : (⟨m', p0', p1', o0', o1', sp', a', b', List.replicate n z54, 0⟩ : VS) = s0 at *
  have hlen := HS.out.len
  have ht : IntKind.i64.wrap 1 = 1 := rfl
  go_enter Try.func10, Try.ntmps10
  have hB_0 : Below w.heap.size w w := Below.refl _ _
  go_wp2_with fail
  refine (awake_w _).mono ?_
  rintro e v1 ⟨rfl, hb1⟩
  obtain ⟨F_1, F_1'⟩ : Row v1 w.heap.size #[.int .i64 m', .int .i64 p0', .int .i64 p1', .bool o0', .bool o1', .bool sp', .int .u32 a', .int .u32 b'] := Row.step (by go_simp) (by go_simp) hb1
  have hB_1 : Below w.heap.size w v1 := bk (by go_simp) (by first | (go_simp; done) | (go_simp; omega) | exact Below.size (by assumption)) hb1
  clear hB_0 hb1
  have hz_1 : w.heap.size ≤ v1.heap.size := hB_1.size
  have hl_F_1 := isRow.lt F_1
  have ne_F_1_0 : ¬ w.heap.size = v1.heap.size := by omega
  have en_F_1_0 : ¬ v1.heap.size = w.heap.size := by omega
  have ne_F_1_1 : ¬ w.heap.size = v1.heap.size + 1 := by omega
  have en_F_1_1 : ¬ v1.heap.size + 1 = w.heap.size := by omega
  go_wp2_with fail
  refine (HM.out _).mono ?_
  rintro e v0 ⟨gv0, lv0, gr, lr, rfl, V1, L1, R1, Q1, n12, n13, n14, n23, n24, n34, b1, b2, b3, b4, hb0⟩
  have hB0 : Below w.heap.size w v0 := bk hB_1 hB_1.size hb0
  have hz0 := hB_1.size
  have g1 : w.heap.size ≤ gv0 := Nat.le_trans hz0 b1
  have g2 : w.heap.size ≤ lv0 := Nat.le_trans hz0 b2
  have g3 : w.heap.size ≤ gr := Nat.le_trans hz0 b3
  have g4 : w.heap.size ≤ lr := Nat.le_trans hz0 b4
  have L1' : Row v0 lv0 (FT s0.xs #[]) := by rw [FT_nil, ← hs]; exact L1
  have Q1' : Row v0 lr (FA s0.xs) := by rw [← hs]; exact Q1
  have hok0 := (HO.out 0 (Nat.zero_le _)).1
  have hab0 := HAB.out 0 (Nat.zero_le _)
  rw [runA_zero] at hok0 hab0
  have HK := Lib.hid (alike_c n n #[] gv0 lv0 gr lr s0 hok0 hab0 (Nat.le_refl _) v0 V1 L1' R1 Q1' n12 n34)
  clear L1 Q1 F_1 F_1' hB_1 HM hb0 b1 b2 b3 b4 hok0 hab0 hn
  go_wp2_with fail
  refine HK.out.mono ?_
  rintro e v2 ⟨rfl, hb2'⟩
  replace V1 := Row.step V1.1 V1.2 hb2'
  replace L1' := Row.step L1'.1 L1'.2 hb2'
  replace R1 := Row.step R1.1 R1.2 hb2'
  replace Q1' := Row.step Q1'.1 Q1'.2 hb2'
  have hB2 : Below w.heap.size w v2 := bk hB0 hB0.size hb2'
  have INV0 : Two n w gr lr (runA n s0 sc 0) (.pointer (some ⟨gv0, 0, none⟩)) v2 := by
    rw [runA_zero]
    exact ⟨gv0, lv0, n, #[], rfl, Nat.le_refl _, V1, L1', R1, Q1', n12, n13, n14, n23, n24, g1, g2, hB2⟩
  clear V1 L1' R1 Q1' hB0 hb2' HK n12 n13 n14 n23 n24 g1 g2 hB2 hs
  go_wp2_with fail
  go_loopw [8, 10] (fun v i wq => ∃ k : Nat, k ≤ sc.length ∧ i = .int .i64 k ∧ Two n w gr lr (runA n s0 sc k) v wq) (fun _ i _ => sc.length - (intOf i).toNat)
  case atStart => exact ⟨0, by omega, rfl, INV0⟩
  case round =>
    clear INV0
    obtain ⟨k, hk, rfl, gv, lv, cc, T, rfl, hcc, G1, G2, G3, G4, n12, n13, n14, n23, n24, g1, g2, hF⟩ := hrel
    by_cases hkn : k < sc.length
    · have k1 : (0 : Int) ≤ (k : Int) := by omega
      have k2 : (k : Int) < (sc.length : Int) := by omega
      obtain ⟨ad, A, cA, rfl, c0, c1, c2, c3, c4, hcA, hCA⟩ := at_A HS.out.C (k : Int) (by omega) (by omega)
      have hCA' := hCA
      replace c0 := pw_cell_below hF c0
      replace c1 := pw_cell_below hF c1
      replace c2 := pw_cell_below hF c2
      replace c3 := pw_cell_below hF c3
      replace c4 := pw_cell_below hF c4
      have hm := rdA_mem sc k hkn
      have hbig := HS.out.big _ hm
      have hx0 := HS.out.x0 _ hm
      have hx1 := HS.out.x1 _ hm
      obtain ⟨hok, hlost⟩ := HO.out k hk
      have hok1 := (HO.out (k + 1) (by omega)).1
      have hab1 := HAB.out (k + 1) (by omega)
      have hS1 := runA_succ n s0 sc k hkn
      generalize runA n s0 sc k = s at *
      generalize hsg : runA n s0 sc (k + 1) = s1 at *
      generalize rdA sc k = act at *
      obtain ⟨d, ls, r, wr', x⟩ := act
      simp only [Int.toNat_natCast] at c0 c1 c2 c3 c4
      simp only at c0 c1 c2 c3 c4 hbig hx0 hx1 hCA hCA' hcA hS1
      clear hm
      have hAd : ∀ ad, A = some ad → 0 < ls.length → ad.block < w.heap.size := fun ad e hn => blk_lt hCA' ad e hn
      have hsz := hF.size
      obtain ⟨m, p0, p1, o0, o1, sp, a, b, ys, lost⟩ := s
      have hk0 := hok
      obtain ⟨hlen2, h16, h0, hst, hlo, hhi⟩ := hk0
      simp only at hlen2 h16 h0 hst hlo hhi
      obtain ⟨V0, V0'⟩ : Row wr gv #[.int .i64 m, .int .i64 p0, .int .i64 p1, .bool o0, .bool o1, .bool sp, .int .u32 a, .int .u32 b, .slice (some ⟨lv, 0, none⟩) n cc, .int .i64 lost] := G1
      obtain ⟨L0, L0'⟩ : Row wr lv (FT ys T) := G2
      obtain ⟨R0, R0'⟩ : Row wr gr (RV (RC m p0 p1 o0 o1 sp (rb a b)) (.slice (some ⟨lr, 0, none⟩) n n) (.int .i64 lost)) := G3
      obtain ⟨Q0, Q0'⟩ : Row wr lr (FA ys) := G4
      have lV := V0.lt
      have lL := L0.lt
      have lR := R0.lt
      have lQ := Q0.lt
      clear hlost
      have m12 : ¬ lv = gv := fun e => n12 e.symm
      have m13 : ¬ gr = gv := fun e => n13 e.symm
      have m14 : ¬ lr = gv := fun e => n14 e.symm
      have m23 : ¬ gr = lv := fun e => n23 e.symm
      have m24 : ¬ lr = lv := fun e => n24 e.symm
      have m34 : ¬ lr = gr := fun e => n34 e.symm
      have HS1 := Lib.hid hS1
      have HSG := Lib.hid hsg
      clear hS1 hsg
      by_cases d4 : d = 4
      · subst d4
        have HC := Lib.hid (fun (W : World) (h1 : isRow W gv) (h1' : rowAt W gv = #[.int .i64 m, .int .i64 p0, .int .i64 p1, .bool o0, .bool o1, .bool sp, .int .u32 a, .int .u32 b, .slice (some ⟨lv, 0, none⟩) n cc, .int .i64 lost]) (h2 : isRow W lv) (h2' : rowAt W lv = FT ys T) => copy_c gv lv n cc T m p0 p1 o0 o1 sp a b lost ys hlen2 h0 h16 n12 W h1 h1' h2 h2')
        have HACK := Lib.hid (fun (W : World) (h1 : isRow W gv) (h1' : rowAt W gv = #[.int .i64 m, .int .i64 p0, .int .i64 p1, .bool o0, .bool o1, .bool sp, .int .u32 a, .int .u32 b, .slice (some ⟨lv, 0, none⟩) n cc, .int .i64 lost]) (h2 : isRow W lv) (h2' : rowAt W lv = FT ys T) => old_ack gv lv n cc T m p0 p1 o0 o1 sp a b lost ys hlen2 h16 hst n12 W h1 h1' h2 h2')
        have nn0 : ¬ (n : Int) = 0 := by omega
        have nn1 : (0 : Int) < (n : Int) := by omega
        have ne_V_X : ¬ gv = wr.heap.size := by omega
        have en_V_X : ¬ wr.heap.size = gv := by omega
        have ne_L_X : ¬ lv = wr.heap.size := by omega
        have en_L_X : ¬ wr.heap.size = lv := by omega
        have ne_R_X : ¬ gr = wr.heap.size := by omega
        have en_R_X : ¬ wr.heap.size = gr := by omega
        have ne_Q_X : ¬ lr = wr.heap.size := by omega
        have en_Q_X : ¬ wr.heap.size = lr := by omega
        go_wp2_with fail
        refine (HC.out _ (by go_simp) (by go_simp) (by go_simp) (by go_simp)).mono ?_
        rintro e v1 ⟨gc, ob, c3', T3, rfl, hc3, hgc, hob, hgo, ⟨C0, C0'⟩, ⟨O0, O0'⟩, hb1⟩
        obtain ⟨V_1, V_1'⟩ : Row v1 gv #[.int .i64 m, .int .i64 p0, .int .i64 p1, .bool o0, .bool o1, .bool sp, .int .u32 a, .int .u32 b, .slice (some ⟨lv, 0, none⟩) n cc, .int .i64 lost] := Row.step (by go_simp) (by go_simp) hb1
        obtain ⟨L_1, L_1'⟩ : Row v1 lv (FT ys T) := Row.step (by go_simp) (by go_simp) hb1
        obtain ⟨R_1, R_1'⟩ : Row v1 gr (RV (RC m p0 p1 o0 o1 sp (rb a b)) (.slice (some ⟨lr, 0, none⟩) n n) (.int .i64 lost)) := Row.step (by go_simp) (by go_simp) hb1
        obtain ⟨Q_1, Q_1'⟩ : Row v1 lr (FA ys) := Row.step (by go_simp) (by go_simp) hb1
        obtain ⟨X_1, X_1'⟩ : Row v1 wr.heap.size #[.int .i64 4, .slice A ls.length cA, .int .i64 r, .bool wr', .int .u64 x] := Row.step (by go_simp) (by go_simp) hb1
        have hB_1 : Below w.heap.size w v1 := bk (by go_simp) (by first | (go_simp; done) | (go_simp; omega) | exact Below.size (by assumption)) hb1
        clear V0 V0' L0 L0' R0 R0' Q0 Q0' hF hb1
        have hz_1 : w.heap.size ≤ v1.heap.size := hB_1.size
        have hl_V_1 := isRow.lt V_1
        have ne_V_1_0 : ¬ gv = v1.heap.size := by omega
        have en_V_1_0 : ¬ v1.heap.size = gv := by omega
        have ne_V_1_1 : ¬ gv = v1.heap.size + 1 := by omega
        have en_V_1_1 : ¬ v1.heap.size + 1 = gv := by omega
        have hl_L_1 := isRow.lt L_1
        have ne_L_1_0 : ¬ lv = v1.heap.size := by omega
        have en_L_1_0 : ¬ v1.heap.size = lv := by omega
        have ne_L_1_1 : ¬ lv = v1.heap.size + 1 := by omega
        have en_L_1_1 : ¬ v1.heap.size + 1 = lv := by omega
        have hl_R_1 := isRow.lt R_1
        have ne_R_1_0 : ¬ gr = v1.heap.size := by omega
        have en_R_1_0 : ¬ v1.heap.size = gr := by omega
        have ne_R_1_1 : ¬ gr = v1.heap.size + 1 := by omega
        have en_R_1_1 : ¬ v1.heap.size + 1 = gr := by omega
        have hl_Q_1 := isRow.lt Q_1
        have ne_Q_1_0 : ¬ lr = v1.heap.size := by omega
        have en_Q_1_0 : ¬ v1.heap.size = lr := by omega
        have ne_Q_1_1 : ¬ lr = v1.heap.size + 1 := by omega
        have en_Q_1_1 : ¬ v1.heap.size + 1 = lr := by omega
        have hl_X_1 := isRow.lt X_1
        have ne_X_1_0 : ¬ wr.heap.size = v1.heap.size := by omega
        have en_X_1_0 : ¬ v1.heap.size = wr.heap.size := by omega
        have ne_X_1_1 : ¬ wr.heap.size = v1.heap.size + 1 := by omega
        have en_X_1_1 : ¬ v1.heap.size + 1 = wr.heap.size := by omega
        simp only [size_setRow_, World.size_alloc] at hgc hob
        have e1 : ¬ gc = gv := by omega
        have e2 : ¬ gc = lv := by omega
        have e3 : ¬ gc = gr := by omega
        have e4 : ¬ gc = lr := by omega
        have e5 : ¬ ob = gv := by omega
        have e6 : ¬ ob = lv := by omega
        have e7 : ¬ ob = gr := by omega
        have e8 : ¬ ob = lr := by omega
        have e9 : ¬ gc = wr.heap.size := by omega
        have e10 : ¬ ob = wr.heap.size := by omega
        have g5 : w.heap.size ≤ gc := by omega
        have g6 : w.heap.size ≤ ob := by omega
        go_wp2_with fail
        refine (HACK.out _ (by go_simp) (by go_simp) (by go_simp) (by go_simp)).mono ?_
        rintro e v2 ⟨v_, a2, b2, xs2, rfl, hx2, hs2, ⟨V_2, V_2'⟩, ⟨L_2, L_2'⟩, hA2⟩
        obtain ⟨R_2, R_2'⟩ : Row v2 gr (RV (RC m p0 p1 o0 o1 sp (rb a b)) (.slice (some ⟨lr, 0, none⟩) n n) (.int .i64 lost)) := hA2.row ⟨by go_simp, by go_simp⟩ (by omega) (by omega)
        obtain ⟨Q_2, Q_2'⟩ : Row v2 lr (FA ys) := hA2.row ⟨by go_simp, by go_simp⟩ (by omega) (by omega)
        obtain ⟨X_2, X_2'⟩ : Row v2 wr.heap.size #[.int .i64 4, .slice A ls.length cA, .int .i64 r, .bool wr', .int .u64 x] := hA2.row ⟨by go_simp, by go_simp⟩ (by omega) (by omega)
        obtain ⟨C_2, C_2'⟩ : Row v2 gc #[.int .i64 m, .int .i64 p0, .int .i64 p1, .bool o0, .bool o1, .bool sp, .int .u32 a, .int .u32 b, .slice (some ⟨ob, 0, none⟩) n c3', .int .i64 lost] := hA2.row ⟨by go_simp, by go_simp⟩ (by omega) (by omega)
        obtain ⟨O_2, O_2'⟩ : Row v2 ob (FT ys T3) := hA2.row ⟨by go_simp, by go_simp⟩ (by omega) (by omega)
        have hB_2 : Below w.heap.size w v2 := hA2.below (by go_simp) (by first | omega | (go_simp; done) | (go_simp; omega)) (by first | omega | (go_simp; done) | (go_simp; omega)) (by first | (go_simp; done) | (go_simp; omega) | exact Below.size (by assumption))
        clear V_1 V_1' L_1 L_1' R_1 R_1' Q_1 Q_1' X_1 X_1' C0 C0' O0 O0' hB_1 hA2
        have hz_2 : w.heap.size ≤ v2.heap.size := hB_2.size
        have hl_V_2 := isRow.lt V_2
        have ne_V_2_0 : ¬ gv = v2.heap.size := by omega
        have en_V_2_0 : ¬ v2.heap.size = gv := by omega
        have ne_V_2_1 : ¬ gv = v2.heap.size + 1 := by omega
        have en_V_2_1 : ¬ v2.heap.size + 1 = gv := by omega
        have hl_L_2 := isRow.lt L_2
        have ne_L_2_0 : ¬ lv = v2.heap.size := by omega
        have en_L_2_0 : ¬ v2.heap.size = lv := by omega
        have ne_L_2_1 : ¬ lv = v2.heap.size + 1 := by omega
        have en_L_2_1 : ¬ v2.heap.size + 1 = lv := by omega
        have hl_R_2 := isRow.lt R_2
        have ne_R_2_0 : ¬ gr = v2.heap.size := by omega
        have en_R_2_0 : ¬ v2.heap.size = gr := by omega
        have ne_R_2_1 : ¬ gr = v2.heap.size + 1 := by omega
        have en_R_2_1 : ¬ v2.heap.size + 1 = gr := by omega
        have hl_Q_2 := isRow.lt Q_2
        have ne_Q_2_0 : ¬ lr = v2.heap.size := by omega
        have en_Q_2_0 : ¬ v2.heap.size = lr := by omega
        have ne_Q_2_1 : ¬ lr = v2.heap.size + 1 := by omega
        have en_Q_2_1 : ¬ v2.heap.size + 1 = lr := by omega
        have hl_X_2 := isRow.lt X_2
        have ne_X_2_0 : ¬ wr.heap.size = v2.heap.size := by omega
        have en_X_2_0 : ¬ v2.heap.size = wr.heap.size := by omega
        have ne_X_2_1 : ¬ wr.heap.size = v2.heap.size + 1 := by omega
        have en_X_2_1 : ¬ v2.heap.size + 1 = wr.heap.size := by omega
        have hl_C_2 := isRow.lt C_2
        have ne_C_2_0 : ¬ gc = v2.heap.size := by omega
        have en_C_2_0 : ¬ v2.heap.size = gc := by omega
        have ne_C_2_1 : ¬ gc = v2.heap.size + 1 := by omega
        have en_C_2_1 : ¬ v2.heap.size + 1 = gc := by omega
        have hl_O_2 := isRow.lt O_2
        have ne_O_2_0 : ¬ ob = v2.heap.size := by omega
        have en_O_2_0 : ¬ v2.heap.size = ob := by omega
        have ne_O_2_1 : ¬ ob = v2.heap.size + 1 := by omega
        have en_O_2_1 : ¬ v2.heap.size + 1 = ob := by omega
        obtain ⟨zs, hz1, hz2, hz3⟩ := FT_num (xs := xs2) T (by omega) hs2
        have hz4 := (FT_gets xs2 T 0 (by omega)).2.1
        simp only [Nat.zero_mul, Nat.zero_add] at hz4
        have HU := Lib.hid (fun (W : World) (h1 : isRow W gv) (h1' : rowAt W gv = #[.int .i64 m, .int .i64 p0, .int .i64 p1, .bool o0, .bool o1, .bool sp, .int .u32 a2, .int .u32 b2, .slice (some ⟨lv, 0, none⟩) n cc, .int .i64 lost]) (h2 : isRow W lv) (h2' : rowAt W lv = FT zs T) => vunload_c n gv lv cc T ⟨m, p0, p1, o0, o1, sp, a2, b2, zs, lost⟩ ⟨hz1.trans hx2, h16, h0, hz2, hlo, hhi⟩ n12 W h2 h2' h1 h1')
        go_wp2_with fail
        refine (HU.out _ (by go_simp) (by go_simp) (by go_simp) (by go_simp)).mono ?_
        rintro e v3 ⟨vu, rfl, hown, ⟨V_3, V_3'⟩, ⟨L_3, L_3'⟩, hA3⟩
        obtain ⟨R_3, R_3'⟩ : Row v3 gr (RV (RC m p0 p1 o0 o1 sp (rb a b)) (.slice (some ⟨lr, 0, none⟩) n n) (.int .i64 lost)) := hA3.row ⟨by go_simp, by go_simp⟩ (by omega) (by omega)
        obtain ⟨Q_3, Q_3'⟩ : Row v3 lr (FA ys) := hA3.row ⟨by go_simp, by go_simp⟩ (by omega) (by omega)
        obtain ⟨X_3, X_3'⟩ : Row v3 wr.heap.size #[.int .i64 4, .slice A ls.length cA, .int .i64 r, .bool wr', .int .u64 x] := hA3.row ⟨by go_simp, by go_simp⟩ (by omega) (by omega)
        obtain ⟨C_3, C_3'⟩ : Row v3 gc #[.int .i64 m, .int .i64 p0, .int .i64 p1, .bool o0, .bool o1, .bool sp, .int .u32 a, .int .u32 b, .slice (some ⟨ob, 0, none⟩) n c3', .int .i64 lost] := hA3.row ⟨by go_simp, by go_simp⟩ (by omega) (by omega)
        obtain ⟨O_3, O_3'⟩ : Row v3 ob (FT ys T3) := hA3.row ⟨by go_simp, by go_simp⟩ (by omega) (by omega)
        have hB_3 : Below w.heap.size w v3 := hA3.below (by go_simp) (by first | omega | (go_simp; done) | (go_simp; omega)) (by first | omega | (go_simp; done) | (go_simp; omega)) (by first | (go_simp; done) | (go_simp; omega) | exact Below.size (by assumption))
        clear V_2 V_2' L_2 L_2' R_2 R_2' Q_2 Q_2' X_2 X_2' C_2 C_2' O_2 O_2' hB_2 hA3
        have hz_3 : w.heap.size ≤ v3.heap.size := hB_3.size
        have hl_V_3 := isRow.lt V_3
        have ne_V_3_0 : ¬ gv = v3.heap.size := by omega
        have en_V_3_0 : ¬ v3.heap.size = gv := by omega
        have ne_V_3_1 : ¬ gv = v3.heap.size + 1 := by omega
        have en_V_3_1 : ¬ v3.heap.size + 1 = gv := by omega
        have hl_L_3 := isRow.lt L_3
        have ne_L_3_0 : ¬ lv = v3.heap.size := by omega
        have en_L_3_0 : ¬ v3.heap.size = lv := by omega
        have ne_L_3_1 : ¬ lv = v3.heap.size + 1 := by omega
        have en_L_3_1 : ¬ v3.heap.size + 1 = lv := by omega
        have hl_R_3 := isRow.lt R_3
        have ne_R_3_0 : ¬ gr = v3.heap.size := by omega
        have en_R_3_0 : ¬ v3.heap.size = gr := by omega
        have ne_R_3_1 : ¬ gr = v3.heap.size + 1 := by omega
        have en_R_3_1 : ¬ v3.heap.size + 1 = gr := by omega
        have hl_Q_3 := isRow.lt Q_3
        have ne_Q_3_0 : ¬ lr = v3.heap.size := by omega
        have en_Q_3_0 : ¬ v3.heap.size = lr := by omega
        have ne_Q_3_1 : ¬ lr = v3.heap.size + 1 := by omega
        have en_Q_3_1 : ¬ v3.heap.size + 1 = lr := by omega
        have hl_X_3 := isRow.lt X_3
        have ne_X_3_0 : ¬ wr.heap.size = v3.heap.size := by omega
        have en_X_3_0 : ¬ v3.heap.size = wr.heap.size := by omega
        have ne_X_3_1 : ¬ wr.heap.size = v3.heap.size + 1 := by omega
        have en_X_3_1 : ¬ v3.heap.size + 1 = wr.heap.size := by omega
        have hl_C_3 := isRow.lt C_3
        have ne_C_3_0 : ¬ gc = v3.heap.size := by omega
        have en_C_3_0 : ¬ v3.heap.size = gc := by omega
        have ne_C_3_1 : ¬ gc = v3.heap.size + 1 := by omega
        have en_C_3_1 : ¬ v3.heap.size + 1 = gc := by omega
        have hl_O_3 := isRow.lt O_3
        have ne_O_3_0 : ¬ ob = v3.heap.size := by omega
        have en_O_3_0 : ¬ v3.heap.size = ob := by omega
        have ne_O_3_1 : ¬ ob = v3.heap.size + 1 := by omega
        have en_O_3_1 : ¬ v3.heap.size + 1 = ob := by omega
        clear V_3 V_3'
        clear L_3 L_3'
        clear hown
        have X1 : Row v3 gc (vrow n c3' ob ⟨m, p0, p1, o0, o1, sp, a, b, ys, lost⟩) := ⟨C_3, C_3'⟩
        have X2 : Row v3 ob (FT (⟨m, p0, p1, o0, o1, sp, a, b, ys, lost⟩ : VS).xs T3) := ⟨O_3, O_3'⟩
        have X3 : Row v3 gr (rrow n lr ⟨m, p0, p1, o0, o1, sp, a, b, ys, lost⟩) := ⟨R_3, R_3'⟩
        have X4 : Row v3 lr (FA (⟨m, p0, p1, o0, o1, sp, a, b, ys, lost⟩ : VS).xs) := ⟨Q_3, Q_3'⟩
        have XCA := Kd.C_below hCA hB_3
        have XAD : ∀ ad, A = some ad → 0 < ls.length → ad.block < v3.heap.size ∧ ¬ In4 gc ob gr lr ad.block := fun ad e hn => by
          have q := hAd ad e hn
          exact ⟨by omega, not_in4 (by omega) (by omega) (by omega) (by omega)⟩
        have HD := Lib.hid (fun (W : World) q1 q2 (X1 : Row W gc _) (X2 : Row W ob _) (X3 : Row W gr _) (X4 : Row W lr _) => does_c n c3' T3 gc ob gr lr ⟨m, p0, p1, o0, o1, sp, a, b, ys, lost⟩ hok 4 A cA ls r wr' x hx0 hx1 W X1.1 X1.2 X2.1 X2.2 X3.1 X3.2 X4.1 X4.2 hgo e3 e4 e7 e8 n34 q1 hcA hbig q2)
        have HK := Lib.hid (fun (W : World) X1 X2 X3 X4 => alike_c n c3' T3 gc ob gr lr s1 hok1 hab1 hc3 W X1 X2 X3 X4 hgo n34)
        clear hCA hCA' hAd HACK HC HU
        go_wp2_with fail
        refine (HD.out _ XCA XAD X1 X2 X3 X4).mono ?_
        clear XCA XAD HD
        rintro e u1 ⟨rfl, X1, X2, X3, X4, hA2⟩
        have hBu : Below w.heap.size w u1 := hA2.below (by go_simp) (fun j e => by unfold In4 at e; omega) (by go_simp)
        clear hA2
        rw [← HS1.out] at X1 X2 X3 X4
        go_wp2_with fail
        refine (HK.out _ X1 X2 X3 X4).mono ?_
        rintro e u2 ⟨rfl, hb⟩
        replace X1 := Row.step X1.1 X1.2 hb
        replace X2 := Row.step X2.1 X2.2 hb
        replace X3 := Row.step X3.1 X3.2 hb
        replace X4 := Row.step X4.1 X4.2 hb
        have hBv : Below w.heap.size w u2 := bk hBu hBu.size hb
        clear hb hBu
        go_wp2
        go_roundw
        case rel => exact ⟨k + 1, by omega, by go_num, by rw [HSG.out]; exact ⟨gc, ob, c3', T3, rfl, hc3, X1, X2, X3, X4, hgo, e3, e4, e7, e8, g5, g6, hBv⟩⟩
        case measure => simp [intOf]; omega
      · have hd4 : (d == 4) = false := by simpa using d4
        have ne_V_X : ¬ gv = wr.heap.size := by omega
        have en_V_X : ¬ wr.heap.size = gv := by omega
        have ne_L_X : ¬ lv = wr.heap.size := by omega
        have en_L_X : ¬ wr.heap.size = lv := by omega
        have ne_R_X : ¬ gr = wr.heap.size := by omega
        have en_R_X : ¬ wr.heap.size = gr := by omega
        have ne_Q_X : ¬ lr = wr.heap.size := by omega
        have en_Q_X : ¬ wr.heap.size = lr := by omega
        go_wp2_with fail
        refine calls_named (fun W_ => (isRow W_ gv ∧ rowAt W_ gv = #[.int .i64 m, .int .i64 p0, .int .i64 p1, .bool o0, .bool o1, .bool sp, .int .u32 a, .int .u32 b, .slice (some ⟨lv, 0, none⟩) n cc, .int .i64 lost]) ∧ (isRow W_ lv ∧ rowAt W_ lv = (FT ys T)) ∧ (isRow W_ gr ∧ rowAt W_ gr = (RV (RC m p0 p1 o0 o1 sp (rb a b)) (.slice (some ⟨lr, 0, none⟩) n n) (.int .i64 lost))) ∧ (isRow W_ lr ∧ rowAt W_ lr = (FA ys)) ∧ (isRow W_ wr.heap.size ∧ rowAt W_ wr.heap.size = #[.int .i64 d, .slice A ls.length cA, .int .i64 r, .bool wr', .int .u64 x]) ∧ Below w.heap.size w W_) (by refine ⟨⟨by go_simp, by go_simp⟩, ⟨by go_simp, by go_simp⟩, ⟨by go_simp, by go_simp⟩, ⟨by go_simp, by go_simp⟩, ⟨by go_simp, by go_simp⟩, by go_simp⟩) ?_
        rintro v1 ⟨⟨V_1, V_1'⟩, ⟨L_1, L_1'⟩, ⟨R_1, R_1'⟩, ⟨Q_1, Q_1'⟩, ⟨X_1, X_1'⟩, hB_1⟩
        clear V0 V0' L0 L0' R0 R0' Q0 Q0' hF
        have hz_1 : w.heap.size ≤ v1.heap.size := hB_1.size
        have hl_V_1 := isRow.lt V_1
        have ne_V_1_0 : ¬ gv = v1.heap.size := by omega
        have en_V_1_0 : ¬ v1.heap.size = gv := by omega
        have ne_V_1_1 : ¬ gv = v1.heap.size + 1 := by omega
        have en_V_1_1 : ¬ v1.heap.size + 1 = gv := by omega
        have hl_L_1 := isRow.lt L_1
        have ne_L_1_0 : ¬ lv = v1.heap.size := by omega
        have en_L_1_0 : ¬ v1.heap.size = lv := by omega
        have ne_L_1_1 : ¬ lv = v1.heap.size + 1 := by omega
        have en_L_1_1 : ¬ v1.heap.size + 1 = lv := by omega
        have hl_R_1 := isRow.lt R_1
        have ne_R_1_0 : ¬ gr = v1.heap.size := by omega
        have en_R_1_0 : ¬ v1.heap.size = gr := by omega
        have ne_R_1_1 : ¬ gr = v1.heap.size + 1 := by omega
        have en_R_1_1 : ¬ v1.heap.size + 1 = gr := by omega
        have hl_Q_1 := isRow.lt Q_1
        have ne_Q_1_0 : ¬ lr = v1.heap.size := by omega
        have en_Q_1_0 : ¬ v1.heap.size = lr := by omega
        have ne_Q_1_1 : ¬ lr = v1.heap.size + 1 := by omega
        have en_Q_1_1 : ¬ v1.heap.size + 1 = lr := by omega
        have hl_X_1 := isRow.lt X_1
        have ne_X_1_0 : ¬ wr.heap.size = v1.heap.size := by omega
        have en_X_1_0 : ¬ v1.heap.size = wr.heap.size := by omega
        have ne_X_1_1 : ¬ wr.heap.size = v1.heap.size + 1 := by omega
        have en_X_1_1 : ¬ v1.heap.size + 1 = wr.heap.size := by omega
        have X1 : Row v1 gv (vrow n cc lv ⟨m, p0, p1, o0, o1, sp, a, b, ys, lost⟩) := ⟨V_1, V_1'⟩
        have X2 : Row v1 lv (FT (⟨m, p0, p1, o0, o1, sp, a, b, ys, lost⟩ : VS).xs T) := ⟨L_1, L_1'⟩
        have X3 : Row v1 gr (rrow n lr ⟨m, p0, p1, o0, o1, sp, a, b, ys, lost⟩) := ⟨R_1, R_1'⟩
        have X4 : Row v1 lr (FA (⟨m, p0, p1, o0, o1, sp, a, b, ys, lost⟩ : VS).xs) := ⟨Q_1, Q_1'⟩
        have XCA := Kd.C_below hCA hB_1
        have XAD : ∀ ad, A = some ad → 0 < ls.length → ad.block < v1.heap.size ∧ ¬ In4 gv lv gr lr ad.block := fun ad e hn => by
          have q := hAd ad e hn
          exact ⟨by omega, not_in4 (by omega) (by omega) (by omega) (by omega)⟩
        have HD := Lib.hid (fun (W : World) q1 q2 (X1 : Row W gv _) (X2 : Row W lv _) (X3 : Row W gr _) (X4 : Row W lr _) => does_c n cc T gv lv gr lr ⟨m, p0, p1, o0, o1, sp, a, b, ys, lost⟩ hok d A cA ls r wr' x hx0 hx1 W X1.1 X1.2 X2.1 X2.2 X3.1 X3.2 X4.1 X4.2 n12 n13 n14 n23 n24 n34 q1 hcA hbig q2)
        have HK := Lib.hid (fun (W : World) X1 X2 X3 X4 => alike_c n cc T gv lv gr lr s1 hok1 hab1 hcc W X1 X2 X3 X4 n12 n34)
        clear hCA hCA' hAd
        refine (HD.out _ XCA XAD X1 X2 X3 X4).mono ?_
        clear XCA XAD HD
        rintro e u1 ⟨rfl, X1, X2, X3, X4, hA2⟩
        have hBu : Below w.heap.size w u1 := hA2.below (by go_simp) (fun j e => by unfold In4 at e; omega) (by go_simp)
        clear hA2
        rw [← HS1.out] at X1 X2 X3 X4
        go_wp2_with fail
        refine (HK.out _ X1 X2 X3 X4).mono ?_
        rintro e u2 ⟨rfl, hb⟩
        replace X1 := Row.step X1.1 X1.2 hb
        replace X2 := Row.step X2.1 X2.2 hb
        replace X3 := Row.step X3.1 X3.2 hb
        replace X4 := Row.step X4.1 X4.2 hb
        have hBv : Below w.heap.size w u2 := bk hBu hBu.size hb
        clear hb hBu
        go_wp2
        go_roundw
        case rel => exact ⟨k + 1, by omega, by go_num, by rw [HSG.out]; exact ⟨gv, lv, cc, T, rfl, hcc, X1, X2, X3, X4, n12, n13, n14, n23, n24, g1, g2, hBv⟩⟩
        case measure => simp [intOf]; omega
    · have hkn' : k = sc.length := by omega
      subst hkn'
      go_wp2
      go_ret
      exact ⟨rfl, hF⟩
end Go.Proofs.Ytkbaghblchlcnaa.Lr.Wd
