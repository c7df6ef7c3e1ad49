/-
  Masks of a byte: the high part, the low part, a byte by its bits. Own work of this repository.
-/
import Derived.Test.YtfenchaiflfobaaBits
namespace Go.Proofs.Ytfenchaiflfobaa
open Go.RowKit
theorem tb_bytemask (j : Nat) (hj : j ≤ 8) (k : Nat) : tb (256 - 2 ^ j) k = (decide (j ≤ k) && decide (k < 8)) := by
  have e : (256 - 2 ^ j : Int) = (2 ^ (8 - j) - 1) * 2 ^ j := by
    have : (2 : Int) ^ (8 - j) * 2 ^ j = 256 := by
      rw [← Int.pow_add, show 8 - j + j = 8 by omega]; rfl
    rw [Int.sub_mul, this]; omega
  rw [e, tb_mul, tb_mask]
  by_cases h : j ≤ k
  · simp [h]; omega
  · simp [h]
/-- the high part of the low byte -/
theorem and_bytemask (x : Int) (j : Nat) (hj : j ≤ 8) : bits .and .i64 x (256 - 2 ^ j) = x % 256 / 2 ^ j * 2 ^ j := by
  have hp : (2 : Int) ^ j > 0 := Int.pow_pos (by decide)
  have h1 : 0 ≤ x % 256 / 2 ^ j * 2 ^ j := Int.mul_nonneg (Int.ediv_nonneg (by omega) (by omega)) (by omega)
  have h2 : x % 256 / 2 ^ j * 2 ^ j ≤ x % 256 := Int.ediv_mul_le _ (by omega)
  refine ext_i64 (bits_i64_in _ _ _) ⟨by omega, by omega⟩ fun k hk => ?_
  rw [tb_and_i _ _ _ hk, tb_bytemask j hj, tb_mul, tb_div, show (256 : Int) = 2 ^ 8 from rfl, tb_mod]
  by_cases h : j ≤ k
  · simp [h, show j + (k - j) = k by omega]; rw [Bool.and_comm]
  · simp [h]
theorem and_248 (x : Int) : bits .and .i64 x 248 = x % 256 / 8 * 8 := and_bytemask x 3 (by decide)
theorem and_7 (x : Int) : bits .and .i64 x 7 = x % 8 := and_low x 3 (by decide)
theorem and_1 (x : Int) : bits .and .i64 x 1 = x % 2 := and_low x 1 (by decide)
theorem and_255 (x : Int) : bits .and .i64 x 255 = x % 256 := and_low x 8 (by decide)
/-- the low part -/
theorem andNot_bytemask (x : Int) (j : Nat) (hj : j ≤ 8) : bits .and .i64 (bits .andNot .i64 x (256 - 2 ^ j)) 255 = x % 2 ^ j := by
  have hp : (2 : Int) ^ j > 0 := Int.pow_pos (by decide)
  have h1 := Int.emod_nonneg x (show (2 : Int) ^ j ≠ 0 by omega)
  have h2 := Int.emod_lt_of_pos x hp
  have h3 : (2 : Int) ^ j ≤ 2 ^ 8 := by
    have : (2 : Nat) ^ j ≤ 2 ^ 8 := Nat.pow_le_pow_right (by decide) (by omega)
    exact_mod_cast this
  refine ext_i64 (bits_i64_in _ _ _) ⟨by omega, by omega⟩ fun k hk => ?_
  rw [show (255 : Int) = 2 ^ 8 - 1 from rfl, tb_and_i _ _ _ hk, tb_andNot_i _ _ _ hk, tb_bytemask j hj, tb_mod, tb_mask]
  by_cases h : k < j
  · have h8 : k < 8 := by omega
    simp [h, h8]
  · by_cases h8 : k < 8
    · simp [h, h8]; omega
    · simp [h, h8]
/-- a byte by its bits -/
theorem byte_sum (x : Int) (h0 : 0 ≤ x) (h1 : x < 256) :
    x = (if tb x 0 then 1 else 0) + (if tb x 1 then 2 else 0) + (if tb x 2 then 4 else 0) + (if tb x 3 then 8 else 0) + (if tb x 4 then 16 else 0) + (if tb x 5 then 32 else 0) + (if tb x 6 then 64 else 0) + (if tb x 7 then 128 else 0) := by
  obtain ⟨n, rfl⟩ := Int.eq_ofNat_of_zero_le h0
  have hn : n < 256 := by omega
  have h : ∀ n : Fin 256, ((n.val : Nat) : Int) = (if tb n.val 0 then 1 else 0) + (if tb n.val 1 then 2 else 0) + (if tb n.val 2 then 4 else 0) + (if tb n.val 3 then 8 else 0) + (if tb n.val 4 then 16 else 0) + (if tb n.val 5 then 32 else 0) + (if tb n.val 6 then 64 else 0) + (if tb n.val 7 then 128 else 0) := by decide +kernel
  exact h ⟨n, hn⟩
end Go.Proofs.Ytfenchaiflfobaa
