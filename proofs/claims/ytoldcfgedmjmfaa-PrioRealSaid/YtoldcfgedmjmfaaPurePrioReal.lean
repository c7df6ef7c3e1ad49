/- What counts of a priority is one of 32 levels, never above the priority where that is from 0 to 255, and counts whole: for every input, with no condition. -/
import Derived.Test.YtoldcfgedmjmfaaIPrioRealx1
import Derived.Test.YtoldcfgedmjmfaaByte
namespace Go.Proofs.Ytoldcfgedmjmfaa.Pure
open Go.RowKit Go.Proofs.Ytoldcfgedmjmfaa.IPrioReal Go.Proofs.YtoldcfgedmjmfaaW.PrintWords Go.Proofs.YtoldcfgedmjmfaaW.PrintLast

theorem awake_true : crierlaw06_awake.f = some true := by decide +kernel

theorem PrioReal : crierlaw06_PrioReal.Pure := by
  intro p hp
  have hw : -9223372036854775808 ≤ p ∧ p ≤ 9223372036854775807 := by simpa [Lit.wf, IntKind.min, IntKind.max, IntKind.signed, IntKind.bits] using hp
  unfold crierlaw06_PrioReal.f prio_Real.f
  rw [awake_true]
  simp only [Option.bind_some, and_248, if_true]
  have ht : (p % 256 / 8 * 8).tmod 8 = 0 := by
    rw [Int.tmod_eq_emod_of_nonneg (by omega)]; omega
  rw [if_pos (by omega), if_pos (by omega), if_pos ht, if_pos (by omega)]
  by_cases h1 : p < 0
  · rw [if_pos h1]
  · rw [if_neg h1]
    by_cases h2 : p > 255
    · rw [if_pos h2]
    · rw [if_neg h2, if_pos (by omega)]
      have : wrap64 (p - p % 256 / 8 * 8) = p - p % 256 / 8 * 8 := IntWalk.wrap64_in _ (by omega)
      rw [this]
      simp; omega

end Go.Proofs.Ytoldcfgedmjmfaa.Pure
