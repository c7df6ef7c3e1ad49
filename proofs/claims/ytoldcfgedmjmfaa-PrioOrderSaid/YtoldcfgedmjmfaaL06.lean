/- Plain lemmas on the printed functions of layer 6: what the loops come to. -/
import Derived.Test.YtoldcfgedmjmfaaIAllx
import Derived.Test.YtoldcfgedmjmfaaByte
namespace Go.Proofs.Ytoldcfgedmjmfaa.Pure
open Go.RowKit Go.Proofs.Ytoldcfgedmjmfaa.IAll Go.Proofs.YtoldcfgedmjmfaaW.PrintWords Go.Proofs.YtoldcfgedmjmfaaW.PrintLast

theorem wf_i64 {a : Int} (h : (Lit.int .i64 a).wf = true) : -9223372036854775808 ≤ a ∧ a ≤ 9223372036854775807 := by
  simpa [Lit.wf, IntKind.min, IntKind.max, IntKind.signed, IntKind.bits] using h
theorem wf_u8 {a : Int} (h : (Lit.int .u8 a).wf = true) : 0 ≤ a ∧ a ≤ 255 := by
  simpa [Lit.wf, IntKind.min, IntKind.max, IntKind.signed, IntKind.bits] using h
theorem w64 (n : Int) (h : -9223372036854775808 ≤ n ∧ n ≤ 9223372036854775807) : wrap64 n = n := IntWalk.wrap64_in n h

theorem awake_true : crierlaw06_awake.f = some true := by decide +kernel

theorem bit_is (n : Int) (c : Nat) (hc : c < 64) : crierref06_bit.f n c = some (tb n c) := by
  unfold crierref06_bit.f shr
  rw [if_pos (by omega), and_1]
  congr 1
  rw [show min (c : Int).toNat IntKind.i64.bits = c by (simp only [IntKind.bits]; omega)]
  unfold tb
  rw [Bool.eq_iff_iff]; simp

theorem two_pow_le (c : Nat) (hc : c < 62) : (0 : Int) < 2 ^ c ∧ (2 : Int) ^ c ≤ 4611686018427387904 := by
  have h1 : (2 : Int) ^ c > 0 := Int.pow_pos (by decide)
  have h2 : (2 : Int) ^ c ≤ 2 ^ 62 := by
    have : (2 : Nat) ^ c ≤ 2 ^ 62 := Nat.pow_le_pow_right (by decide) (by omega)
    exact_mod_cast this
  exact ⟨h1, by omega⟩
theorem shl1 (c : Nat) (hc : c < 62) : shl .i64 1 c = 2 ^ c := by
  have h := two_pow_le c hc
  unfold shl
  rw [show min (c : Int).toNat IntKind.i64.bits = c by (simp only [IntKind.bits]; omega), Int.one_mul, wrap_i64_eq]
  omega

/-- one round of the loop over the bits -/
theorem real_step (k : Nat) (p x : Int) (c : Nat) (hc : c ≤ 7) (hx : 0 ≤ x ∧ x ≤ 1000) :
    crierref06_Real.l0 (k + 1) p x c = crierref06_Real.l0 k p (x + if tb p c then 2 ^ c else 0) ((c + 1 : Nat) : Int) := by
  have h2 : (2 : Int) ^ c ≤ 2 ^ 7 := by
    have : (2 : Nat) ^ c ≤ 2 ^ 7 := Nat.pow_le_pow_right (by decide) hc
    exact_mod_cast this
  have h3 := (two_pow_le c (by omega)).1
  rw [crierref06_Real.l0, if_pos (by omega), bit_is _ _ (by omega)]
  simp only [Option.bind_some]
  rw [shl1 _ (by omega), w64 (c + 1) (by omega), w64 _ (by omega)]
  cases tb p c
  · simp
  · simp
theorem real_is (k : Nat) (hk : 6 ≤ k) (p : Int) : crierref06_Real.f k p = some (p % 256 / 8 * 8) := by
  obtain ⟨k, rfl⟩ : ∃ m, k = m + 6 := ⟨k - 6, by omega⟩
  unfold crierref06_Real.f
  have b := byte_sum (p % 256 / 8 * 8) (by omega) (by omega)
  have t : ∀ c, tb (p % 256 / 8 * 8) c = (decide (3 ≤ c) && (decide (c < 8) && tb p c)) := by
    intro c
    rw [show (256 : Int) = 2 ^ 8 from rfl, show (8 : Int) = 2 ^ 3 from rfl, tb_mul, tb_div, tb_mod]
    by_cases h : 3 ≤ c
    · simp [h, show 3 + (c - 3) = c by omega]
    · simp [h]
  simp only [t] at b
  have s3 := real_step (k + 5) p 0 3 (by omega) (by omega)
  have s4 := fun x hx => real_step (k + 4) p x 4 (by omega) hx
  have s5 := fun x hx => real_step (k + 3) p x 5 (by omega) hx
  have s6 := fun x hx => real_step (k + 2) p x 6 (by omega) hx
  have s7 := fun x hx => real_step (k + 1) p x 7 (by omega) hx
  simp only [Nat.reduceAdd, Int.reducePow] at s3 s4 s5 s6 s7
  rw [show ((3 : Nat) : Int) = 3 from rfl] at s3
  rw [s3]
  rw [s4 _ (by split <;> omega), s5 _ (by (repeat' split) <;> omega), s6 _ (by (repeat' split) <;> omega), s7 _ (by (repeat' split) <;> omega)]
  rw [crierref06_Real.l0, if_neg (by omega), b]
  simp

theorem sub_step (k : Nat) (p m x : Int) (c : Nat) (hc : c ≤ 7) (hx : 0 ≤ x ∧ x ≤ 1000) :
    crierref06_Sub.l0 (k + 1) p m x c = crierref06_Sub.l0 k p m (x + if tb p c && !tb m c then 2 ^ c else 0) ((c + 1 : Nat) : Int) := by
  have h2 : (2 : Int) ^ c ≤ 2 ^ 7 := by
    have : (2 : Nat) ^ c ≤ 2 ^ 7 := Nat.pow_le_pow_right (by decide) hc
    exact_mod_cast this
  have h3 := (two_pow_le c (by omega)).1
  rw [crierref06_Sub.l0, if_pos (by omega), bit_is _ _ (by omega)]
  simp only [Option.bind_some]
  rw [shl1 _ (by omega), w64 (c + 1) (by omega), w64 _ (by omega), bit_is _ _ (by omega)]
  simp only [Option.bind_some]
  cases tb p c <;> cases tb m c <;> simp
theorem sub_is (k : Nat) (hk : 9 ≤ k) (p m : Int) : crierref06_Sub.f k p m = some (bits .and .i64 (bits .andNot .i64 p m) 255) := by
  obtain ⟨k, rfl⟩ : ∃ n, k = n + 9 := ⟨k - 9, by omega⟩
  unfold crierref06_Sub.f
  have hz : bits .and .i64 (bits .andNot .i64 p m) 255 = bits .andNot .i64 p m % 256 := and_255 _
  have b := byte_sum (bits .andNot .i64 p m % 256) (by omega) (by omega)
  have t : ∀ c, c < 8 → tb (bits .andNot .i64 p m % 256) c = (tb p c && !tb m c) := by
    intro c hc
    rw [show (256 : Int) = 2 ^ 8 from rfl, tb_mod, tb_andNot_i _ _ _ (by omega)]
    simp [hc]
  simp only [t 0 (by omega), t 1 (by omega), t 2 (by omega), t 3 (by omega), t 4 (by omega), t 5 (by omega), t 6 (by omega), t 7 (by omega)] at b
  have s0 := sub_step (k + 8) p m 0 0 (by omega) (by omega)
  have s1 := fun x hx => sub_step (k + 7) p m x 1 (by omega) hx
  have s2 := fun x hx => sub_step (k + 6) p m x 2 (by omega) hx
  have s3 := fun x hx => sub_step (k + 5) p m x 3 (by omega) hx
  have s4 := fun x hx => sub_step (k + 4) p m x 4 (by omega) hx
  have s5 := fun x hx => sub_step (k + 3) p m x 5 (by omega) hx
  have s6 := fun x hx => sub_step (k + 2) p m x 6 (by omega) hx
  have s7 := fun x hx => sub_step (k + 1) p m x 7 (by omega) hx
  simp only [Nat.reduceAdd, Int.reducePow] at s0 s1 s2 s3 s4 s5 s6 s7
  rw [show ((0 : Nat) : Int) = 0 from rfl] at s0
  generalize (tb p 0 && !tb m 0) = u0 at *
  generalize (tb p 1 && !tb m 1) = u1 at *
  generalize (tb p 2 && !tb m 2) = u2 at *
  generalize (tb p 3 && !tb m 3) = u3 at *
  generalize (tb p 4 && !tb m 4) = u4 at *
  generalize (tb p 5 && !tb m 5) = u5 at *
  generalize (tb p 6 && !tb m 6) = u6 at *
  generalize (tb p 7 && !tb m 7) = u7 at *
  have bd : ∀ (u : Bool) (n : Int), 0 ≤ n → 0 ≤ (if u = true then n else 0) ∧ (if u = true then n else 0) ≤ n := by intro u n hn; cases u <;> simp <;> omega
  have q0 := bd u0 1 (by omega)
  have q1 := bd u1 2 (by omega)
  have q2 := bd u2 4 (by omega)
  have q3 := bd u3 8 (by omega)
  have q4 := bd u4 16 (by omega)
  have q5 := bd u5 32 (by omega)
  have q6 := bd u6 64 (by omega)
  have q7 := bd u7 128 (by omega)
  rw [s0, s1 _ (by omega), s2 _ (by omega), s3 _ (by omega), s4 _ (by omega), s5 _ (by omega), s6 _ (by omega), s7 _ (by omega)]
  rw [crierref06_Sub.l0, if_neg (by omega), hz, b]
  congr 1
  omega

theorem rmask_step (k : Nat) (g p x : Int) (c : Nat) (hc : c ≤ 2) (hx : 0 ≤ x ∧ x ≤ 1000) :
    crierref06_Mask.l0 (k + 1) g p x c = crierref06_Mask.l0 k g p (x + if tb p c then 2 ^ c else 0) ((c + 1 : Nat) : Int) := by
  have h2 : (2 : Int) ^ c ≤ 2 ^ 2 := by
    have : (2 : Nat) ^ c ≤ 2 ^ 2 := Nat.pow_le_pow_right (by decide) hc
    exact_mod_cast this
  have h3 := (two_pow_le c (by omega)).1
  rw [crierref06_Mask.l0, if_pos (by omega), bit_is _ _ (by omega)]
  simp only [Option.bind_some]
  rw [shl1 _ (by omega), w64 (c + 1) (by omega), w64 _ (by omega)]
  cases tb p c
  · simp
  · simp
theorem rmask_up (d : Nat) : ∀ (k : Nat) (x : Int) (c : Nat), c + d = 8 → 0 ≤ x → x ≤ 2 ^ c → d < k → crierref06_Mask.l1 k x c = some (x + (256 - 2 ^ c)) := by
  induction d with
  | zero =>
    intro k x c hc h0 h1 hk
    obtain ⟨k, rfl⟩ : ∃ m, k = m + 1 := ⟨k - 1, by omega⟩
    obtain rfl : c = 8 := by omega
    rw [crierref06_Mask.l1, if_neg (by omega)]
    simp
  | succ d ih =>
    intro k x c hc h0 h1 hk
    obtain ⟨k, rfl⟩ : ∃ m, k = m + 1 := ⟨k - 1, by omega⟩
    have h2 : (2 : Int) ^ c ≤ 2 ^ 7 := by
      have : (2 : Nat) ^ c ≤ 2 ^ 7 := Nat.pow_le_pow_right (by decide) (by omega)
      exact_mod_cast this
    have h3 := (two_pow_le c (by omega)).1
    have h4 : (2 : Int) ^ (c + 1) = 2 * 2 ^ c := by rw [Int.pow_succ]; omega
    rw [crierref06_Mask.l1, if_pos (by omega), if_pos (by omega), shl1 _ (by omega), w64 _ (by omega), w64 _ (by omega)]
    have := ih k (x + 2 ^ c) (c + 1) (by omega) (by omega) (by omega) (by omega)
    rw [show ((c : Int) + 1) = ((c + 1 : Nat) : Int) by omega, this]
    congr 1; omega
theorem rmask_is (k : Nat) (hk : 20 ≤ k) (g p : Int) : crierref06_Mask.f k g p = some (maskZ g p) := by
  obtain ⟨k, rfl⟩ : ∃ n, k = n + 5 := ⟨k - 5, by omega⟩
  unfold crierref06_Mask.f
  have t : ∀ c, c < 3 → tb (p % 8) c = tb p c := by
    intro c hc
    rw [show (8 : Int) = 2 ^ 3 from rfl, tb_mod]; simp [hc]
  have b : p % 8 = (if tb p 0 then 1 else 0) + (if tb p 1 then 2 else 0) + (if tb p 2 then 4 else 0) := by
    have z := byte_sum (p % 8) (by omega) (by omega)
    simp only [t 0 (by omega), t 1 (by omega), t 2 (by omega)] at z
    have u : ∀ c, 3 ≤ c → tb (p % 8) c = false := by
      intro c hc; rw [show (8 : Int) = 2 ^ 3 from rfl, tb_mod]; simp; omega
    simp only [u 3 (by omega), u 4 (by omega), u 5 (by omega), u 6 (by omega), u 7 (by omega)] at z
    simpa using z
  have s0 := rmask_step (k + 4) g p 0 0 (by omega) (by omega)
  have s1 := fun x hx => rmask_step (k + 3) g p x 1 (by omega) hx
  have s2 := fun x hx => rmask_step (k + 2) g p x 2 (by omega) hx
  simp only [Nat.reduceAdd, Int.reducePow] at s0 s1 s2
  rw [show ((0 : Nat) : Int) = 0 from rfl] at s0
  rw [s0, s1 _ (by split <;> omega), s2 _ (by (repeat' split) <;> omega), crierref06_Mask.l0, if_neg (by omega), Int.zero_add, ← b]
  unfold maskZ maskJ
  have up := fun (x : Int) (h : 0 ≤ x ∧ x ≤ 8) => rmask_up (8 - x.toNat) k 0 x.toNat (by omega) (by omega) (by have := (two_pow_le x.toNat (by omega)).1; omega) (by omega)
  have j1 : ∀ x : Int, 0 ≤ x ∧ x ≤ 8 → crierref06_Mask.j1 (k + 1) x = some (256 - 2 ^ x.toNat) := by
    intro x hx
    rw [crierref06_Mask.j1]
    have := up x hx
    rw [show ((x.toNat : Nat) : Int) = x by omega] at this
    rw [this]; simp
  by_cases hg : g = 0
  · rw [if_pos hg, if_pos hg, w64 _ (by omega), j1 _ (by omega)]
  · rw [if_neg hg, if_neg hg]
    by_cases h0 : p % 8 = 0
    · rw [if_pos h0, j1 _ (by omega), h0]; rfl
    · rw [if_neg h0, j1 _ (by omega), show max 1 (p % 8) = p % 8 by omega]
end Go.Proofs.Ytoldcfgedmjmfaa.Pure
