/- Plain facts of layer 14: masks, what may come through. -/
import Derived.Test.YtpjenhojldcmiaaIAllx5
import Derived.Test.YtpjenhojldcmiaaByte
namespace Go.Proofs.Ytpjenhojldcmiaa.Pure
set_option linter.unusedVariables false
set_option linter.unusedSimpArgs false
open Go.RowKit Go.Proofs.Ytpjenhojldcmiaa Go.Proofs.Ytpjenhojldcmiaa.IAll Go.Proofs.YtpjenhojldcmiaaW.PrintWords Go.Proofs.YtpjenhojldcmiaaW.PrintLast Go.Proofs.YtpjenhojldcmiaaW.PrintMore

theorem shl255 (x : Int) (h0 : 0 ≤ x) (h8 : x ≤ 8) : Go.bits .and .i64 (shl .i64 255 x) 255 = 256 - 2 ^ x.toNat := by
  have h : ∀ n : Fin 9, Go.bits .and .i64 (shl .i64 255 ((n.val : Nat) : Int)) 255 = 256 - 2 ^ n.val := by decide +kernel
  have := h ⟨x.toNat, by omega⟩
  simpa [Int.toNat_of_nonneg h0] using this
theorem prio_mask (g b : Int) : ∃ j : Nat, j ≤ 8 ∧ prio_Mask.f g b = some (256 - 2 ^ j) := by
  unfold prio_Mask.f
  rw [and_7]
  by_cases hg : g = 0
  · have e : wrap64 (b % 8 + 1) = b % 8 + 1 := by unfold wrap64; omega
    rw [if_pos hg, e, if_pos (by omega), shl255 _ (by omega) (by omega)]
    exact ⟨(b % 8 + 1).toNat, by omega, rfl⟩
  · have h1 : 1 ≤ mx 1 (b % 8) ∧ mx 1 (b % 8) ≤ 8 := by unfold mx; split <;> omega
    rw [if_neg hg, shl255 _ (by omega) (by omega)]
    exact ⟨(mx 1 (b % 8)).toNat, by omega, rfl⟩
theorem mask_ex (s0 s1 s2 : Int) (s3 s4 s5 : Bool) (s6 s7 g : Int) : ∃ j : Nat, j ≤ 8 ∧ ∀ t3 t4 t5 t6 t7 t0, cpuif_If_mask.f t0 s1 s2 t3 t4 t5 t6 t7 g = some (256 - 2 ^ j) := by
  unfold cpuif_If_mask.f
  rw [and_1]
  by_cases hg : g % 2 = 0
  · obtain ⟨j, hj, e⟩ := prio_mask 0 s1
    exact ⟨j, hj, fun _ _ _ _ _ _ => by rw [if_pos hg, e]; rfl⟩
  · obtain ⟨j, hj, e⟩ := prio_mask 1 s2
    exact ⟨j, hj, fun _ _ _ _ _ _ => by rw [if_neg hg, if_pos (by omega), e]; rfl⟩
theorem may_is (s0 s1 s2 : Int) (s3 s4 s5 : Bool) (s6 s7 c0 c1 c2 : Int) (c3 : Bool) (m : Int) (hm : cpuif_If_mask.f s0 s1 s2 s3 s4 s5 s6 s7 c2 = some m) :
    cpuif_If_May.f s0 s1 s2 s3 s4 s5 s6 s7 c0 c1 c2 c3 = some (c3 && (if c2 % 2 = 0 then s3 else s4) && decide (c1 < s0) && decide (Go.bits .and .i64 c1 m < (top s6 s7).1)) := by
  unfold cpuif_If_May.f cpuif_If_Running.f ladder_Ladder_Running.f prio_Passes.f prio_Preempts.f
  rw [and_1, hm]
  simp only [Option.bind_some]
  cases c3 with
  | false => simp
  | true =>
    by_cases hg : c2 % 2 = 0
    · simp only [hg, if_true]
      cases s3 <;> by_cases hp : c1 < s0 <;> simp [hp]
    · simp only [hg, if_false, if_true, show c2 % 2 = 1 by omega]
      cases s4 <;> by_cases hp : c1 < s0 <;> simp [hp]
theorem and_mono (j : Nat) (hj : j ≤ 8) (x y : Int) (h0 : 0 ≤ x) (h : x ≤ y) (hy : y < 256) : Go.bits .and .i64 x (256 - 2 ^ j) ≤ Go.bits .and .i64 y (256 - 2 ^ j) := by
  rw [and_bytemask x j hj, and_bytemask y j hj, Int.emod_eq_of_lt h0 (by omega), Int.emod_eq_of_lt (by omega) hy]
  have hp : (2 : Int) ^ j > 0 := Int.pow_pos (by decide)
  exact Int.mul_le_mul_of_nonneg_right (Int.ediv_le_ediv hp h) (by omega)
end Go.Proofs.Ytpjenhojldcmiaa.Pure
