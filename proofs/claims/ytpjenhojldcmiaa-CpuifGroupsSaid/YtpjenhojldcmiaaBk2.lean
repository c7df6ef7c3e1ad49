/- Plain law of CpuifBack: levels and their masks. -/
import Derived.Test.YtpjenhojldcmiaaBk
import Derived.Test.YtpjenhojldcmiaaCp5
namespace Go.Proofs.Ytpjenhojldcmiaa
theorem and_mask (j : Nat) (hj : j ≤ 8) (x : Int) (h0 : 0 ≤ x) (h1 : x < 256) : bits .and .i64 x (256 - 2 ^ j) = x / 2 ^ j * 2 ^ j := by
  have : ∀ (j : Fin 9) (x : Fin 256), bits .and .i64 (x.val : Int) (256 - 2 ^ j.val) = (x.val : Int) / 2 ^ j.val * 2 ^ j.val := by decide +kernel
  have h := this ⟨j, by omega⟩ ⟨x.toNat, by omega⟩
  simp only [Int.toNat_of_nonneg h0] at h
  exact h
theorem or_low7 (k y : Int) (hk : 0 ≤ k) (hk1 : k < 32) (hy : 0 ≤ y) (hy1 : y < 8) : bits .or .i64 (8 * k) y = 8 * k + y := by
  have : ∀ (k : Fin 32) (y : Fin 8), bits .or .i64 (8 * (k.val : Int)) (y.val : Int) = 8 * (k.val : Int) + (y.val : Int) := by decide +kernel
  have h := this ⟨k.toNat, by omega⟩ ⟨y.toNat, by omega⟩
  simp only [Int.toNat_of_nonneg hk, Int.toNat_of_nonneg hy] at h
  exact h
end Go.Proofs.Ytpjenhojldcmiaa
