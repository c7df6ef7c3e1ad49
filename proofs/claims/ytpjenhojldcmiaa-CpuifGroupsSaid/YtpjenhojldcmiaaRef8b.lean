/- Contracts by hand: the document's ladder (crierref08), told by two numbers as the program's is: what is let go, what runs highest, the bits. -/
import Derived.Test.YtpjenhojldcmiaaRef8
namespace Go.Proofs.Ytpjenhojldcmiaa
open Go.RowKit Go.Shelf
attribute [local go_sem] Oper.semAt_some

theorem rnone (a b : Int) (h : ∀ j, j < 64 → rb a b j = false) : allL a b = [] := by
  have : ∀ n, n ≤ 64 → allUpto a b n = [] := by
    intro n
    induction n with
    | zero => intro _; rfl
    | succ n ih => intro hn; rw [allUpto, ih (by omega), cell, h n (by omega)]; rfl
  exact this 64 (Nat.le_refl _)
theorem rfirst (a b : Int) (i : Nat) (hi : i < 64) (h : rb a b i = true) (hb : ∀ j, j < i → rb a b j = false) : ∃ post, allL a b = ((8 * (i / 2 : Nat) : Int), ((i % 2 : Nat) : Int)) :: post := by
  obtain ⟨post, hp⟩ := allL_at a b i hi h
  have : ∀ n, n ≤ i → allUpto a b n = [] := by
    intro n
    induction n with
    | zero => intro _; rfl
    | succ n ih => intro hn; rw [allUpto, ih (by omega), cell, hb n (by omega)]; rfl
  rw [this i (Nat.le_refl _)] at hp
  exact ⟨post, hp⟩
theorem rtb_pow (k j : Nat) : tb (2 ^ k) j = decide (j = k) := by
  have h : ((2 : Int) ^ k) = ((2 ^ k : Nat) : Int) := by simp
  rw [h, tb_nat, Nat.testBit_two_pow]
  by_cases e : k = j <;> simp [e, eq_comm]
theorem rb_drop (a b : Int) (i : Nat) (hi : i < 64) (h : rb a b i = true) (hb : ∀ j, j < i → rb a b j = false) (j : Nat) (hj : j < 64) : rb (dropA a b) (dropB a b) j = if j = i then false else rb a b j := by
  obtain ⟨post, hp⟩ := rfirst a b i hi h hb
  unfold dropA dropB
  rw [hp]
  simp only
  rw [show ((8 * (i / 2 : Nat) : Int) / 8).toNat = i / 2 by omega]
  unfold rb
  by_cases hg : i % 2 = 0
  · rw [show ((i % 2 : Nat) : Int) = 0 by omega]
    simp only [if_true]
    by_cases hj2 : j % 2 = 0
    · simp only [hj2, if_true]
      rw [tb_andNot_w _ _ _ (by omega), rtb_pow]
      by_cases e : j = i
      · subst e; simp
      · simp [e, show ¬ j / 2 = i / 2 by omega]
    · simp only [hj2, if_false]
      rw [if_neg (by intro e; subst e; omega)]
  · have hg1 : ((i % 2 : Nat) : Int) = 1 := by omega
    rw [hg1]
    simp only [show ¬ ((1 : Int) = 0) by decide, if_false]
    by_cases hj2 : j % 2 = 0
    · simp only [hj2, if_true]
      rw [if_neg (by intro e; subst e; omega)]
    · simp only [hj2, if_false]
      rw [tb_andNot_w _ _ _ (by omega), rtb_pow]
      by_cases e : j = i
      · subst e; simp
      · simp [e, show ¬ j / 2 = i / 2 by omega]
set_option maxRecDepth 100000 in
set_option maxHeartbeats 400000 in
theorem rDrop_c (a b : Int) (w : World) : Calls Try.prog 51 #[.agg (Lb (rb a b))] w fun e w' => e = .returned (.tuple #[.agg (Lb (rb (dropA a b) (dropB a b))), .bool (some? a b)]) ∧ Below w.heap.size w w' := by
  have hyes : ∀ i, i < 64 → rb a b i = true → (∀ j, j < i → rb a b j = false) → some? a b = true ∧ ∀ j, j < 64 → rb (dropA a b) (dropB a b) j = if j = i then false else rb a b j := fun i hi h hb => by
    obtain ⟨post, hp⟩ := rfirst a b i hi h hb
    exact ⟨by unfold some?; rw [hp]; rfl, rb_drop a b i hi h hb⟩
  have hno : (∀ j, j < 64 → rb a b j = false) → some? a b = false ∧ dropA a b = a ∧ dropB a b = b := fun h => by
    have hn := rnone a b h
    exact ⟨by unfold some?; rw [hn]; rfl, by unfold dropA; rw [hn], by unfold dropB; rw [hn]⟩
  generalize some? a b = s0 at *
  generalize dropA a b = da at *
  generalize dropB a b = db at *
  have HY := Lib.hid hyes
  have HN := Lib.hid hno
  clear hyes hno
  go_enter Try.func51, Try.ntmps51
  go_wp2_with fail
  rw [← Lb_false]
  have hB0 : Below w.heap.size w ((w.alloc (.cells (Lb (rb a b)) 59)).alloc (.cells (Lb fun _ => false) 59)) := ((Below.refl _ w).alloc (Nat.le_refl _) _).alloc (by simp) _
  have b0 : BoxN ((w.alloc (.cells (Lb (rb a b)) 59)).alloc (.cells (Lb fun _ => false) 59)) w.heap.size 59 (Lb (rb a b)) := (BoxN.new w 59 _).alloc _
  have b1 : BoxN ((w.alloc (.cells (Lb (rb a b)) 59)).alloc (.cells (Lb fun _ => false) 59)) (w.heap.size + 1) 59 (Lb fun _ => false) := by
    have := BoxN.new (w.alloc (.cells (Lb (rb a b)) 59)) 59 (Lb fun _ => false); rwa [World.size_alloc] at this
  generalize (w.alloc (.cells (Lb (rb a b)) 59)).alloc (.cells (Lb fun _ => false) 59) = W0 at *
  go_loopw [4] (fun i wr => ∃ k : Nat, k ≤ 64 ∧ i = .int .i64 k ∧ (∀ j, j < k → rb a b j = false) ∧ BoxN wr w.heap.size 59 (Lb (rb a b)) ∧ BoxN wr (w.heap.size + 1) 59 (Lb fun _ => false) ∧ Below w.heap.size w wr) (fun i _ => 64 - (intOf i).toNat)
  case atStart => exact ⟨0, by omega, rfl, by omega, b0, b1, hB0⟩
  case round =>
    clear b0 b1 hB0
    obtain ⟨k, hk, rfl, hlow, b0, b1, hB0⟩ := hrel
    have HL := Lib.hid hlow
    clear hlow
    by_cases hlt : k < 64
    · have c0 := b0.cell (i := k) (Lb_get _ _ hlt)
      have f0 := b0.frozen k
      by_cases hb : rb a b k = true
      · obtain ⟨hs, hd⟩ := HY.out k hlt hb HL.out
        have b0' : BoxN (wr.setCell ⟨w.heap.size, k, none⟩ (.bool false)) w.heap.size 59 (Lb (rb (da) (db))) := by
          rw [Lb_ext hd, ← Lb_set]; exact boxN_setCell b0 k (.bool false)
        have b1' : BoxN (wr.setCell ⟨w.heap.size, k, none⟩ (.bool false)) (w.heap.size + 1) 59 (Lb fun _ => false) := boxN_other b1 _ (by simp) _
        have HS := Lib.hid hs
        rw [hb] at c0
        clear hd hs hb HY HN
        go_wp2_with (first | ((with_reducible apply load_lad'); exact rfl; (with_reducible assumption)) | ((with_reducible apply store_lad'); exact rfl; exact rfl; (with_reducible assumption)))
        exact bodyPost_ret (v := .tuple #[.agg (Lb (rb (da) (db))), .bool true]) (res_lad rfl _ _ (w.heap.size + 1) _ _ rfl (boxN_row b1') _ rfl) rfl ⟨by rw [HS.out], below_row (hB0.setCell (p := ⟨w.heap.size, k, none⟩) (by simp) _) (by omega) _⟩
      · have hb' : rb a b k = false := by simpa using hb
        have HB' := Lib.hid hb'
        rw [hb'] at c0
        clear hb hb'
        go_wp2
        go_roundw
        case rel => exact ⟨k + 1, by omega, by go_num, fun j hj => (Nat.lt_succ_iff_lt_or_eq.1 hj).elim (HL.out j) (fun e => e ▸ HB'.out), b0, b1, hB0⟩
        case measure => simp [intOf]; omega
    · have hk64 : k = 64 := by omega
      obtain ⟨h1, h2, h3⟩ := HN.out (by subst hk64; exact HL.out)
      have HS := Lib.hid h1
      have HA := Lib.hid h2
      have HBB := Lib.hid h3
      clear hk64 h1 h2 h3 HY HN
      go_wp2_with (first | ((with_reducible apply load_lad'); exact rfl; (with_reducible assumption)) | ((with_reducible apply store_lad'); exact rfl; exact rfl; (with_reducible assumption)))
      exact bodyPost_ret (v := .tuple #[.agg (Lb (rb a b)), .bool false]) (res_lad rfl _ _ (w.heap.size + 1) _ _ rfl (boxN_row b1) _ rfl) rfl ⟨by rw [HS.out, HA.out, HBB.out], below_row hB0 (by omega) _⟩

theorem below_drew8 {B : Nat} {W W' : World} (h : Below B W W') : Below B W W'.drew := ⟨h.os, h.tape, h.output, h.size, h.block⟩
theorem ret_pair {x x' y y' : Int} (h1 : x = x') (h2 : y = y') : Ending.returned (.tuple #[.int .i64 x, .int .i64 y]) = .returned (.tuple #[.int .i64 x', .int .i64 y']) := by rw [h1, h2]
set_option maxRecDepth 100000 in
set_option maxHeartbeats 2000000 in
theorem rRunning_c (a b : Int) (w : World) : Calls Try.prog 45 #[.agg (Lb (rb a b))] w fun e w' => e = .returned (.tuple #[.int .i64 (top a b).1, .int .i64 (top a b).2]) ∧ Below w.heap.size w w' := by
  have hB0 : Below w.heap.size w (w.alloc (.cells (Lb (rb a b)) 59)) := ((Below.refl _ w).alloc (Nat.le_refl _) _)
  have b0 : BoxN (w.alloc (.cells (Lb (rb a b)) 59)) w.heap.size 59 (Lb (rb a b)) := BoxN.new w 59 _
  have hz : w.heap.size ≤ (w.alloc (.cells (Lb (rb a b)) 59)).heap.size := hB0.size
  cases hal : allL a b with
  | nil =>
    have ht : top a b = (255, 0) := by unfold top; rw [hal]; rfl
    rw [ht]
    clear ht
    have HAL := Lib.hid (show ∀ W : World, Calls Try.prog 53 #[.agg (Lb (rb a b))] W fun e w' => (e = .returned (.slice none 0 0) ∨ ∃ g cap, e = .returned (.slice (some ⟨g, 0, none⟩) 0 cap)) ∧ Below W.heap.size W w' from fun W => (rAll_c a b W).mono (by
      rintro e w1 ⟨v, rfl, hrow, hb⟩
      rw [hal] at hrow
      refine ⟨?_, hb⟩
      rcases hrow.2 with ⟨rfl, _⟩ | ⟨g, cap, cur, rfl, _, _, _⟩
      · exact .inl rfl
      · exact .inr ⟨g, cap, rfl⟩))
    clear hal
    go_enter Try.func45, Try.ntmps45
    go_wp2_with (first | ((with_reducible apply load_lad'); exact rfl; (with_reducible assumption)) | (go_at_call 53; refine (HAL.out _).mono ?_; rintro e w1 ⟨(rfl | ⟨g, cap, rfl⟩), hb⟩))
    all_goals
      go_ret2
      exact ⟨rfl, hB0.trans (hb.mono hz)⟩
  | cons x post =>
    have ht : top a b = x := by unfold top; rw [hal]; rfl
    rw [ht]
    clear ht
    have HAL := Lib.hid (show ∀ W : World, Calls Try.prog 53 #[.agg (Lb (rb a b))] W fun e w' => ∃ (g n cap : Nat), e = .returned (.slice (some ⟨g, 0, none⟩) n cap) ∧ 2 ≤ n ∧ w'.cell? ⟨g, 0, none⟩ = some (.int .i64 x.1) ∧ w'.cell? ⟨g, 1, none⟩ = some (.int .i64 x.2) ∧ Below W.heap.size W w' from fun W => (rAll_c a b W).mono (by
      rintro e w1 ⟨v, rfl, hrow, hb⟩
      rw [hal] at hrow
      have hn : 2 ≤ (flat' (x :: post)).length := by rw [flat'_length, List.length_cons]; omega
      rcases hrow.2 with ⟨rfl, h0⟩ | ⟨g, cap, cur, rfl, _, _, _⟩
      · omega
      · exact ⟨g, _, cap, rfl, hn, by rw [hrow.cellAt 0 (by omega)]; simp [flat'], by rw [hrow.cellAt 1 (by omega)]; simp [flat'], hb⟩))
    clear hal
    go_enter Try.func45, Try.ntmps45
    go_wp2_with (first | ((with_reducible apply load_lad'); exact rfl; (with_reducible assumption)) | (go_at_call 53; refine (HAL.out _).mono ?_; rintro e w1 ⟨g, n, cap, rfl, hn, k0, k1, hb⟩))
    go_region
    all_goals
      go_wp2
      go_ret2
      exact ⟨rfl, below_drew8 (hB0.trans (hb.mono hz))⟩

set_option maxRecDepth 100000 in
set_option maxHeartbeats 2000000 in
theorem rBits_c (a b : Int) (ha : 0 ≤ a) (ha' : a ≤ 4294967295) (hb : 0 ≤ b) (hb' : b ≤ 4294967295) (g : Int) (hg : g = 0 ∨ g = 1) (w : World) : Calls Try.prog 46 #[.agg (Lb (rb a b)), .int .i64 g] w fun e w' => e = .returned (.int .u32 (if g = 0 then a else b)) ∧ Below w.heap.size w w' := by
  have hc : ∃ c : Int, (if g = 0 then a else b) = c ∧ 0 ≤ c ∧ c ≤ 4294967295 ∧ ∀ k : Nat, rb a b (2 * k + g.toNat) = tb c k := by
    rcases hg with rfl | rfl
    · exact ⟨a, rfl, ha, ha', fun k => by simp [rb]⟩
    · exact ⟨b, rfl, hb, hb', fun k => by simp [rb, show (2 * k + 1) % 2 = 1 by omega, show (2 * k + 1) / 2 = k by omega]⟩
  obtain ⟨c, hce, hc0, hc1, hbit⟩ := hc
  rw [hce]
  have HBIT := Lib.hid hbit
  have hB0 : Below w.heap.size w (w.alloc (.cells (Lb (rb a b)) 59)) := ((Below.refl _ w).alloc (Nat.le_refl _) _)
  have b0 : BoxN (w.alloc (.cells (Lb (rb a b)) 59)) w.heap.size 59 (Lb (rb a b)) := BoxN.new w 59 _
  have hg0 : 0 ≤ g := by omega
  have hg1 : g ≤ 1 := by omega
  clear hce hbit hg ha ha' hb hb'
  go_enter Try.func46, Try.ntmps46
  go_wp2_with fail
  generalize w.alloc (.cells (Lb (rb a b)) 59) = W0 at *
  go_loop [5, 6] (fun n i => ∃ k : Nat, k ≤ 32 ∧ i = .int .i64 ((k : Int) - 1) ∧ n = .int .u32 (c / 2 ^ k)) (fun _ i => (intOf i + 1).toNat)
  case atStart => exact ⟨32, by omega, rfl, by congr 1; omega⟩
  case round =>
    obtain ⟨k, hk, rfl, rfl⟩ := hrel
    by_cases hlt : 1 ≤ k
    · obtain ⟨m, rfl⟩ : ∃ m, k = m + 1 := ⟨k - 1, by omega⟩
      have hr := half_range c (m + 1) hc0 hc1
      have hst := half_step c m
      have hhb := half_bit c m
      have hr2 := half_range c m hc0 hc1
      have c0 := b0.cell (i := 2 * m + g.toNat) (Lb_get _ _ (by omega))
      rw [HBIT.out m] at c0
      have hm1 : (((m + 1 : Nat) : Int) - 1) = (m : Int) := by omega
      rw [hm1]
      have hidx : (2 * (m : Int) + g).toNat = 2 * m + g.toNat := by omega
      rw [← hidx] at c0
      clear hidx hm1
      generalize c / 2 ^ (m + 1) = x at *
      generalize hy : c / 2 ^ m = y at *
      obtain ⟨hr0, hr1⟩ := hr
      obtain ⟨hr2, hr3⟩ := hr2
      rw [← hhb] at c0
      by_cases hbit : y % 2 = 1
      · rw [show (y % 2 == 1) = true by simp [hbit]] at c0
        have HY := Lib.hid (show y = 2 * x + 1 by omega)
        have hx : 2 * x + 1 ≤ 4294967295 := by omega
        have HYY := Lib.hid hy
        clear hst hhb hbit hy
        go_wp2
        go_round
        case rel => exact ⟨m, by omega, rfl, by rw [HYY.out, HY.out]; congr 1; omega⟩
        case measure => simp [intOf]
      · rw [show (y % 2 == 1) = false by simp [hbit]] at c0
        have HY := Lib.hid (show y = 2 * x by omega)
        have hx : 2 * x ≤ 4294967295 := by omega
        have HYY := Lib.hid hy
        clear hst hhb hbit hy
        go_wp2
        go_round
        case rel => exact ⟨m, by omega, rfl, by rw [HYY.out, HY.out]; congr 1; omega⟩
        case measure => simp [intOf]
    · have hk0 : k = 0 := by omega
      have HC := Lib.hid (show c / 2 ^ k = c by rw [hk0]; simp)
      have hm1 : ((k : Int) - 1) = -1 := by omega
      rw [HC.out, hm1]
      clear hk hlt hm1 hk0
      go_wp2
      go_ret
      exact ⟨rfl, hB0⟩
end Go.Proofs.Ytpjenhojldcmiaa
