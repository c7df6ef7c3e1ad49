/- What counts of a priority, a mask, the two parts of a priority and which come ahead are as the document says: for every input, with no condition. -/
import Derived.Test.YtoldcfgedmjmfaaL06
namespace Go.Proofs.Ytoldcfgedmjmfaa.Pure
open Go.RowKit Go.Proofs.Ytoldcfgedmjmfaa.IAll Go.Proofs.YtoldcfgedmjmfaaW.PrintWords Go.Proofs.YtoldcfgedmjmfaaW.PrintLast

theorem PrioReckons : crierlaw06_PrioReckons.Pure := by
  intro p q g pt m hp hq hg hpt hm
  refine ⟨20, ?_⟩
  unfold crierlaw06_PrioReckons.f prio_Real.f prio_Mask.f prio_Level.f prio_Sub.f prio_Passes.f prio_Preempts.f
  rw [awake_true, real_is 20 (by omega), rmask_is 20 (by omega), sub_is 20 (by omega)]
  simp [and_248]

end Go.Proofs.Ytoldcfgedmjmfaa.Pure
