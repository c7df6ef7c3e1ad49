/-
  Masks of a byte: the high part, the low part, a byte by its bits. Own work of this repository.
-/
import Derived.Test.YtbhideabefjadaaBits
namespace Go.Proofs.Ytbhideabefjadaa
open Go.RowKit
theorem tb_bytemask (j : Nat) (hj : j ≤ 8) (k : Nat) : tb (256 - 2 ^ j) k = (decide (j ≤ k) && decide (k < 8)) := by
  have e : (256 - 2 ^ j : Int) = (2 ^ (8 - j) - 1) * 2 ^ j := by
    have : (2 : Int) ^ (8 - j) * 2 ^ j = 256 := by
      rw [← Int.pow_add, show 8 - j + j = 8 by omega]; rfl
    rw [Int.sub_mul, this]; omega
  rw [e, tb_mul, tb_mask]
  by_cases h : j ≤ k
  · simp [h]; omega
  · simp [h]
/-- the high part of the low byte -/
theorem and_bytemask (x : Int) (j : Nat) (hj : j ≤ 8) : bits .and .i64 x (256 - 2 ^ j) = x % 256 / 2 ^ j * 2 ^ j := by
  have hp : (2 : Int) ^ j > 0 := Int.pow_pos (by decide)
  have h1 : 0 ≤ x % 256 / 2 ^ j * 2 ^ j := Int.mul_nonneg (Int.ediv_nonneg (by omega) (by omega)) (by omega)
  have h2 : x % 256 / 2 ^ j * 2 ^ j ≤ x % 256 := Int.ediv_mul_le _ (by omega)
  refine ext_i64 (bits_i64_in _ _ _) ⟨by omega, by omega⟩ fun k hk => ?_
  rw [tb_and_i _ _ _ hk, tb_bytemask j hj, tb_mul, tb_div, show (256 : Int) = 2 ^ 8 from rfl, tb_mod]
  by_cases h : j ≤ k
  · simp [h, show j + (k - j) = k by omega]; rw [Bool.and_comm]
  · simp [h]
theorem and_248 (x : Int) : bits .and .i64 x 248 = x % 256 / 8 * 8 := and_bytemask x 3 (by decide)
end Go.Proofs.Ytbhideabefjadaa
