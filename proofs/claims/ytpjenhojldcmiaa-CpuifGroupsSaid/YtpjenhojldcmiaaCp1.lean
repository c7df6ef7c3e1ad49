/- Contracts by hand: what counts of priorities, the program's and the document's. -/
import Derived.Test.YtpjenhojldcmiaaRc
namespace Go.Proofs.Ytpjenhojldcmiaa
open Go.RowKit Go.Shelf
attribute [local go_sem] Oper.semAt_some

/-- what counts of a priority -/
def realP (p : Int) : Int := p / 8 % 32 * 8
theorem tb_248 (k : Nat) (hk : k < 64) : tb 248 k = decide (3 ≤ k ∧ k < 8) := by
  have : ∀ k : Fin 64, tb 248 k.val = decide (3 ≤ k.val ∧ k.val < 8) := by decide
  exact this ⟨k, hk⟩
theorem tb_realP (p : Int) (k : Nat) : tb (realP p) k = (decide (3 ≤ k ∧ k < 8) && tb p k) := by
  unfold realP
  rw [show p / 8 % 32 * 8 = p % 256 - p % 8 by omega]
  have h8 : p % 8 = p % 2 ^ 3 := rfl
  have h256 : p % 256 = p % 2 ^ 8 := rfl
  by_cases h3 : k < 3
  · have e : tb (p % 256 - p % 8) k = false := by
      unfold tb
      have : (p % 256 - p % 8) = 8 * (p / 8 % 32) := by omega
      rw [this]
      obtain rfl | rfl | rfl : k = 0 ∨ k = 1 ∨ k = 2 := by omega
      all_goals simp; omega
    rw [e, show decide (3 ≤ k ∧ k < 8) = false from decide_eq_false (by omega)]; rfl
  · by_cases h8' : k < 8
    · rw [show decide (3 ≤ k ∧ k < 8) = true from decide_eq_true (by omega), Bool.true_and]
      unfold tb
      congr 1
      apply propext
      obtain rfl | rfl | rfl | rfl | rfl : k = 3 ∨ k = 4 ∨ k = 5 ∨ k = 6 ∨ k = 7 := by omega
      all_goals (simp; omega)
    · rw [show decide (3 ≤ k ∧ k < 8) = false from decide_eq_false (by omega), Bool.false_and]
      unfold tb
      have hp : (2 : Int) ^ 8 ≤ 2 ^ k := by have := Nat.pow_le_pow_right (n := 2) (by decide) (show 8 ≤ k by omega); exact_mod_cast this
      have : (p % 256 - p % 8) / 2 ^ k = 0 := Int.ediv_eq_zero_of_lt (by omega) (by omega)
      rw [this]; rfl
theorem and248 (p : Int) : bits .and .i64 p 248 = realP p := by
  refine ext_i64 (bits_i64_in _ _ _) (by unfold realP; omega) fun k hk => ?_
  rw [tb_and_i _ _ _ hk, tb_248 k hk, tb_realP, Bool.and_comm]

/-- a binary point's mask -/
def fromP (g pt : Int) : Nat := if g = 0 then (pt % 8).toNat + 1 else max 1 (pt % 8).toNat
def maskP (g pt : Int) : Int := 256 - 2 ^ fromP g pt
theorem fromP_le (g pt : Int) : 1 ≤ fromP g pt ∧ fromP g pt ≤ 8 := by unfold fromP; split <;> omega
theorem and7 (x : Int) : bits .and .i64 x 7 = x % 8 := and_low x 3 (by decide)
theorem tbmask (k : Nat) (hk : k ≤ 8) : bits .and .i64 (wrap64 (255 * 2 ^ k)) 255 = 256 - 2 ^ k := by
  have : ∀ k : Fin 9, bits .and .i64 (wrap64 (255 * 2 ^ k.val)) 255 = 256 - 2 ^ k.val := by decide +kernel
  exact this ⟨k, by omega⟩
set_option maxRecDepth 100000 in
set_option maxHeartbeats 1000000 in
theorem Mask_c (g pt : Int) (w : World) : Calls Try.prog 11 #[.int .i64 g, .int .i64 pt] w fun e w' => e = .returned (.int .i64 (maskP g pt)) ∧ w = w' := by
  have h7 := and7 pt
  by_cases hg : g = 0
  · subst hg
    have HM := Lib.hid (show maskP 0 pt = 256 - 2 ^ ((pt % 8).toNat + 1) by unfold maskP fromP; rw [if_pos rfl])
    obtain ⟨b, hb⟩ : ∃ b : Nat, pt % 8 = b := ⟨(pt % 8).toNat, by omega⟩
    have hb8 : b < 8 := by omega
    have HT := Lib.hid (tbmask (b + 1) (by omega))
    rw [hb] at h7 HM
    simp only [Int.toNat_natCast] at HM
    generalize maskP 0 pt = mm at *
    clear hb
    go_enter Try.func11, Try.ntmps11
    go_wp2
    go_ret
    exact ⟨by rw [HM.out, ← HT.out]; rfl, rfl⟩
  · obtain ⟨b, hb⟩ : ∃ b : Nat, pt % 8 = b := ⟨(pt % 8).toNat, by omega⟩
    have hb8 : b < 8 := by omega
    have HM := Lib.hid (show maskP g pt = 256 - 2 ^ (max 1 b) by unfold maskP fromP; rw [if_neg hg, hb]; rfl)
    have hg' : (g == 0) = false := by simpa using hg
    rw [hb] at h7
    generalize maskP g pt = mm at *
    clear hb hg
    by_cases h0 : b = 0
    · subst h0
      have h7' : bits .and .i64 pt 7 = 0 := h7
      clear h7
      go_enter Try.func11, Try.ntmps11
      go_wp2
      go_ret
      exact ⟨by rw [HM.out, show (256 : Int) - 2 ^ (max 1 0) = bits .and .i64 510 255 by decide +kernel]; rfl, rfl⟩
    · by_cases h1 : b = 1
      · subst h1
        have h7' : bits .and .i64 pt 7 = 1 := h7
        clear h7
        go_enter Try.func11, Try.ntmps11
        go_wp2
        go_ret
        exact ⟨by rw [HM.out, show (256 : Int) - 2 ^ (max 1 1) = bits .and .i64 510 255 by decide +kernel]; rfl, rfl⟩
      · have HT := Lib.hid (tbmask b (by omega))
        have hb1 : 1 < b := by omega
        have HMX := Lib.hid (show max 1 b = b by omega)
        clear h0 h1
        go_enter Try.func11, Try.ntmps11
        go_wp2
        go_ret
        exact ⟨by rw [HM.out, HMX.out, ← HT.out]; rfl, rfl⟩
theorem Real_c (p : Int) (w : World) : Calls Try.prog 37 #[.int .i64 p] w fun e w' => e = .returned (.int .i64 (realP p)) ∧ w = w' := by
  have HR := Lib.hid (and248 p)
  generalize realP p = rr at *
  go_enter Try.func37, Try.ntmps37
  go_wp2
  go_ret
  exact ⟨by rw [← HR.out]; rfl, rfl⟩
theorem Passes_c (p m : Int) (w : World) : Calls Try.prog 34 #[.int .i64 p, .int .i64 m] w fun e w' => e = .returned (.bool (decide (p < m))) ∧ w = w' := by
  go_enter Try.func34, Try.ntmps34
  go_wp2
  go_ret
  exact ⟨rfl, rfl⟩
theorem Preempts_c (p r m : Int) (w : World) : Calls Try.prog 35 #[.int .i64 p, .int .i64 r, .int .i64 m] w fun e w' => e = .returned (.bool (decide (bits .and .i64 p m < r))) ∧ w = w' := by
  go_enter Try.func35, Try.ntmps35
  go_wp2
  go_ret
  exact ⟨rfl, rfl⟩
theorem bit_is (n : Int) (k : Nat) : (bits .and .i64 (n / 2 ^ k) 1 == 1) = tb n k := by rw [and1]; exact half_bit n k
theorem rbit_c (n : Int) (k : Nat) (hk : k < 64) (w : World) : Calls Try.prog 57 #[.int .i64 n, .int .i64 k] w fun e w' => e = .returned (.bool (tb n k)) ∧ w = w' := by
  have HB := Lib.hid (bit_is n k)
  generalize tb n k = t at *
  go_enter Try.func57, Try.ntmps57
  go_wp2
  go_ret
  exact ⟨by rw [← HB.out]; rfl, rfl⟩
theorem mod_step (n : Int) (k : Nat) : n % 2 ^ (k + 1) = n % 2 ^ k + if tb n k = true then 2 ^ k else 0 := by
  have hp : (2 : Int) ^ k > 0 := Int.pow_pos (by decide)
  have h1 := Int.emod_add_mul_ediv n (2 ^ (k + 1))
  have h2 := Int.emod_add_mul_ediv n (2 ^ k)
  have h3 : n / 2 ^ (k + 1) = n / 2 ^ k / 2 := by rw [Int.pow_succ, Int.ediv_ediv_of_nonneg (by omega)]
  have h4 := Int.emod_add_mul_ediv (n / 2 ^ k) 2
  rw [h3] at h1
  rw [Int.pow_succ] at h1 ⊢
  unfold tb
  generalize (2 : Int) ^ k = P at *
  generalize n / P = q at *
  have h5 : P * 2 * (q / 2) = P * q - P * (q % 2) := by rw [← Int.mul_sub, Int.mul_assoc]; congr 1; omega
  by_cases h : q % 2 = 1
  · simp only [h, decide_true, if_true]; rw [h] at h5; omega
  · have h0 : q % 2 = 0 := by omega
    simp only [h0]
    rw [h0] at h5
    simp
    omega
theorem pow_b (k : Nat) (hk : k ≤ 8) : (0 : Int) < 2 ^ k ∧ (2 : Int) ^ k ≤ 256 := by
  refine ⟨Int.pow_pos (by decide), ?_⟩
  have h : (2 : Int) ^ k ≤ 2 ^ 8 := by have := Nat.pow_le_pow_right (n := 2) (by decide) hk; exact_mod_cast this
  simpa using h
set_option maxRecDepth 100000 in
set_option maxHeartbeats 2000000 in
theorem rReal_c (p : Int) (w : World) : Calls Try.prog 52 #[.int .i64 p] w fun e w' => e = .returned (.int .i64 (realP p)) ∧ w = w' := by
  have HR := Lib.hid (show p % 2 ^ 8 - p % 8 = realP p by unfold realP; omega)
  go_enter Try.func52, Try.ntmps52
  go_wp2
  go_loop [3, 4] (fun n i => ∃ k : Nat, 3 ≤ k ∧ k ≤ 8 ∧ i = .int .i64 k ∧ n = .int .i64 (p % 2 ^ k - p % 8)) (fun _ i => 8 - (intOf i).toNat)
  case atStart => exact ⟨3, by omega, by omega, rfl, by congr 1; omega⟩
  case round =>
    obtain ⟨k, hk3, hk, rfl, rfl⟩ := hrel
    by_cases hlt : k < 8
    · have HS := Lib.hid (mod_step p k)
      obtain ⟨q0, q1⟩ := pow_b k hk
      have hr0 := Int.emod_nonneg p (show (2 : Int) ^ k ≠ 0 by omega)
      have hr1 := Int.emod_lt_of_pos p q0
      have hb8 : 0 ≤ p % 8 := by omega
      have hb9 : p % 8 ≤ 7 := by omega
      have HBT := Lib.hid (fun W : World => rbit_c p k (by omega) W)
      generalize p % 2 ^ k = m at *
      generalize p % 8 = m8 at *
      generalize tb p k = t at *
      cases t
      · go_wp2_with (go_at_call 57; refine (HBT.out _).mono ?_; rintro e w' ⟨rfl, rfl⟩)
        go_round
        case rel => exact ⟨k + 1, by omega, by omega, by go_num, by rw [HS.out]; simp⟩
        case measure => simp [intOf]; omega
      · go_wp2_with (go_at_call 57; refine (HBT.out _).mono ?_; rintro e w' ⟨rfl, rfl⟩)
        go_round
        case rel => exact ⟨k + 1, by omega, by omega, by go_num, by rw [HS.out]; simp; omega⟩
        case measure => simp [intOf]; omega
    · have hk8 : k = 8 := by omega
      have HP := Lib.hid (show p % 2 ^ k - p % 8 = realP p by rw [hk8]; exact HR.out)
      clear hk8
      go_wp2
      go_ret
      exact ⟨by rw [← HP.out]; rfl, rfl⟩
set_option maxRecDepth 100000 in
set_option maxHeartbeats 4000000 in
theorem rMask_c (g pt : Int) (w : World) : Calls Try.prog 54 #[.int .i64 g, .int .i64 pt] w fun e w' => e = .returned (.int .i64 (maskP g pt)) ∧ w = w' := by
  have hF := fromP_le g pt
  have HF := Lib.hid (show fromP g pt = if g = 0 then (pt % 8).toNat + 1 else max 1 (pt % 8).toNat from rfl)
  have HM := Lib.hid (show maskP g pt = 256 - 2 ^ fromP g pt from rfl)
  generalize maskP g pt = mm at *
  generalize fromP g pt = fr at *
  obtain ⟨hf1, hf8⟩ := hF
  go_enter Try.func54, Try.ntmps54
  go_wp2
  go_loop [5, 6] (fun n i => ∃ k : Nat, k ≤ 3 ∧ i = .int .i64 k ∧ n = .int .i64 (pt % 2 ^ k)) (fun _ i => 3 - (intOf i).toNat)
  case atStart => exact ⟨0, by omega, rfl, by congr 1; omega⟩
  case round =>
    obtain ⟨k, hk, rfl, rfl⟩ := hrel
    by_cases hlt : k < 3
    · have HS := Lib.hid (mod_step pt k)
      obtain ⟨q0, q1⟩ := pow_b k (by omega)
      have hr0 := Int.emod_nonneg pt (show (2 : Int) ^ k ≠ 0 by omega)
      have hr1 := Int.emod_lt_of_pos pt q0
      have HBT := Lib.hid (fun W : World => rbit_c pt k (by omega) W)
      generalize pt % 2 ^ k = m at *
      generalize tb pt k = t at *
      cases t
      · go_wp2_with (go_at_call 57; refine (HBT.out _).mono ?_; rintro e w' ⟨rfl, rfl⟩)
        go_round
        case rel => exact ⟨k + 1, by omega, by go_num, by rw [HS.out]; simp⟩
        case measure => simp [intOf]; omega
      · go_wp2_with (go_at_call 57; refine (HBT.out _).mono ?_; rintro e w' ⟨rfl, rfl⟩)
        go_round
        case rel => exact ⟨k + 1, by omega, by go_num, by rw [HS.out]; simp⟩
        case measure => simp [intOf]; omega
    · have hk3 : k = 3 := by omega
      obtain ⟨b, hb⟩ : ∃ b : Nat, pt % 8 = b := ⟨(pt % 8).toNat, by omega⟩
      have hb8 : b < 8 := by omega
      have HP := Lib.hid (show pt % 2 ^ k = (b : Int) by rw [hk3]; exact hb)
      rw [hb, Int.toNat_natCast] at HF
      clear hk3 hb
      rw [HP.out]
      by_cases hg : g = 0
      · subst hg
        have HF' := Lib.hid (show (b : Int) + 1 = (fr : Int) by have := HF.out; simp at this; omega)
        clear HF
        go_wp2_with fail
        go_loop [8, 9] (fun n i => ∃ k : Nat, fr ≤ k ∧ k ≤ 8 ∧ i = .int .i64 k ∧ n = .int .i64 (2 ^ k - 2 ^ fr)) (fun _ i => 8 - (intOf i).toNat)
        case atStart => exact ⟨fr, by omega, by omega, by rw [HF'.out], by go_num⟩
        case round =>
          obtain ⟨k2, hk0, hk2, rfl, rfl⟩ := hrel
          have HST := Lib.hid (show (2 : Int) ^ (k2 + 1) = 2 * 2 ^ k2 by rw [Int.pow_succ]; omega)
          obtain ⟨q0, q1⟩ := pow_b k2 hk2
          obtain ⟨q2, q3⟩ := pow_b fr hf8
          have HP8 := Lib.hid (fun h : k2 = 8 => show (2 : Int) ^ k2 = 256 by rw [h]; rfl)
          generalize (2 : Int) ^ fr = Q at *
          by_cases hlt2 : k2 < 8
          · go_wp2
            go_round
            case rel => exact ⟨k2 + 1, by omega, by omega, by go_num, by rw [HST.out]; first | rfl | (unfold wrap64; congr 1; omega) | (congr 1; omega)⟩
            case measure => simp [intOf]; omega
          · have hk28 : k2 = 8 := by omega
            have HE := Lib.hid (show (2 : Int) ^ k2 - Q = mm by rw [HM.out, HP8.out hk28])
            clear hk28
            go_wp2
            go_ret
            exact ⟨by rw [← HE.out]; rfl, rfl⟩
      · have hg' : (g == 0) = false := by simpa using hg
        have HF0 := Lib.hid (show max 1 b = fr by have := HF.out; rw [if_neg hg] at this; exact this.symm)
        clear hg HF
        by_cases hb0 : b = 0
        · subst hb0
          have HF' := Lib.hid (show (1 : Int) = (fr : Int) by have := HF0.out; omega)
          go_wp2_with fail
          go_loop [8, 9] (fun n i => ∃ k : Nat, fr ≤ k ∧ k ≤ 8 ∧ i = .int .i64 k ∧ n = .int .i64 (2 ^ k - 2 ^ fr)) (fun _ i => 8 - (intOf i).toNat)
          case atStart => exact ⟨fr, by omega, by omega, by rw [← HF'.out], by go_num⟩
          case round =>
            obtain ⟨k2, hk0, hk2, rfl, rfl⟩ := hrel
            have HST := Lib.hid (show (2 : Int) ^ (k2 + 1) = 2 * 2 ^ k2 by rw [Int.pow_succ]; omega)
            obtain ⟨q0, q1⟩ := pow_b k2 hk2
            obtain ⟨q2, q3⟩ := pow_b fr hf8
            have HP8 := Lib.hid (fun h : k2 = 8 => show (2 : Int) ^ k2 = 256 by rw [h]; rfl)
            generalize (2 : Int) ^ fr = Q at *
            by_cases hlt2 : k2 < 8
            · go_wp2
              go_round
              case rel => exact ⟨k2 + 1, by omega, by omega, by go_num, by rw [HST.out]; first | rfl | (unfold wrap64; congr 1; omega) | (congr 1; omega)⟩
              case measure => simp [intOf]; omega
            · have hk28 : k2 = 8 := by omega
              have HE := Lib.hid (show (2 : Int) ^ k2 - Q = mm by rw [HM.out, HP8.out hk28])
              clear hk28
              go_wp2
              go_ret
              exact ⟨by rw [← HE.out]; rfl, rfl⟩
        · have HF' := Lib.hid (show (b : Int) = (fr : Int) by have := HF0.out; omega)
          have hb0' : ((b : Int) == 0) = false := by simpa using hb0
          clear hb0
          go_wp2_with fail
          go_loop [8, 9] (fun n i => ∃ k : Nat, fr ≤ k ∧ k ≤ 8 ∧ i = .int .i64 k ∧ n = .int .i64 (2 ^ k - 2 ^ fr)) (fun _ i => 8 - (intOf i).toNat)
          case atStart => exact ⟨fr, by omega, by omega, by rw [HF'.out], by go_num⟩
          case round =>
            obtain ⟨k2, hk0, hk2, rfl, rfl⟩ := hrel
            have HST := Lib.hid (show (2 : Int) ^ (k2 + 1) = 2 * 2 ^ k2 by rw [Int.pow_succ]; omega)
            obtain ⟨q0, q1⟩ := pow_b k2 hk2
            obtain ⟨q2, q3⟩ := pow_b fr hf8
            have HP8 := Lib.hid (fun h : k2 = 8 => show (2 : Int) ^ k2 = 256 by rw [h]; rfl)
            generalize (2 : Int) ^ fr = Q at *
            by_cases hlt2 : k2 < 8
            · go_wp2
              go_round
              case rel => exact ⟨k2 + 1, by omega, by omega, by go_num, by rw [HST.out]; first | rfl | (unfold wrap64; congr 1; omega) | (congr 1; omega)⟩
              case measure => simp [intOf]; omega
            · have hk28 : k2 = 8 := by omega
              have HE := Lib.hid (show (2 : Int) ^ k2 - Q = mm by rw [HM.out, HP8.out hk28])
              clear hk28
              go_wp2
              go_ret
              exact ⟨by rw [← HE.out]; rfl, rfl⟩
end Go.Proofs.Ytpjenhojldcmiaa
