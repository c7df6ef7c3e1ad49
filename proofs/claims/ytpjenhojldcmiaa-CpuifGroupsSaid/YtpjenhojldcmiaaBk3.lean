/- Plain law of CpuifBack: the level that a candidate takes, and what may come through behind it. -/
import Derived.Test.YtpjenhojldcmiaaBk2
namespace Go.Proofs.Ytpjenhojldcmiaa
theorem lev_is (g pt : Int) (k : Nat) (hk : k < 32) : ∃ q : Nat, q < 32 ∧ bits .and .i64 (8 * (k : Int)) (maskP g pt) = 8 * (q : Int) := by
  have h := fromP_le g pt
  unfold maskP
  generalize fromP g pt = j at *
  rw [and_mask j h.2 _ (by omega) (by omega)]
  have : ∀ (j : Fin 9) (k : Fin 32), ∃ q : Fin 32, (8 * (k.val : Int)) / 2 ^ j.val * 2 ^ j.val = 8 * (q.val : Int) := by decide +kernel
  obtain ⟨q, hq⟩ := this ⟨j, by omega⟩ ⟨k, hk⟩
  exact ⟨q.val, q.isLt, hq⟩
theorem lev_mono (g pt x y : Int) (h0 : 0 ≤ x) (h : x ≤ y) (h1 : y < 256) : bits .and .i64 x (maskP g pt) ≤ bits .and .i64 y (maskP g pt) := by
  have hj := fromP_le g pt
  unfold maskP
  generalize fromP g pt = j at *
  rw [and_mask j hj.2 _ h0 (by omega), and_mask j hj.2 _ (by omega) h1]
  exact Int.mul_le_mul_of_nonneg_right (Int.ediv_le_ediv (Int.pow_pos (by decide)) h) (Int.le_of_lt (Int.pow_pos (by decide)))
end Go.Proofs.Ytpjenhojldcmiaa
