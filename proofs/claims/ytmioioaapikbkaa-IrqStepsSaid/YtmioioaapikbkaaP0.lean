/- What the laws of layer 7 share, in plain words. -/
import Derived.Test.YtmioioaapikbkaaIAllx4
namespace Go.Proofs.Ytmioioaapikbkaa.Pure
open Go.RowKit Go.Proofs.Ytmioioaapikbkaa.IAll Go.Proofs.YtmioioaapikbkaaW.PrintWords Go.Proofs.YtmioioaapikbkaaW.PrintLast Go.Proofs.YtmioioaapikbkaaW.PrintMore

theorem wf_u8 {a : Int} (h : (Lit.int .u8 a).wf = true) : 0 ≤ a ∧ a ≤ 255 := by
  simpa [Lit.wf, IntKind.min, IntKind.max, IntKind.signed, IntKind.bits] using h
theorem w64 (n : Int) (h : -9223372036854775808 ≤ n ∧ n ≤ 9223372036854775807) : wrap64 n = n := IntWalk.wrap64_in n h
theorem awake20 : crierlaw07_awake.f 20 = some true := by decide +kernel
theorem awake_true (k : Nat) (h : 20 ≤ k) : crierlaw07_awake.f k = some true := by
  have := more_rounds (g := fun k => crierlaw07_awake.f k) crierlaw07_awake.mono 20 (k - 20) _ awake20
  rwa [show 20 + (k - 20) = k by omega] at this
abbrev St := Bool × Bool × Bool × Bool
/-- a state behind an act -/
def stp (s : St) (x : Int) : St := ((irq_Step.f s.1 s.2.1 s.2.2.1 s.2.2.2 x).getD s)
theorem step_is (e l h a : Bool) (x : Int) : irq_Step.f e l h a x = some (stp (e, l, h, a) x) := by
  have : (irq_Step.f e l h a x).isSome = true := by
    by_cases hx : x < 1 ∨ x > 9
    · unfold irq_Step.f
      rw [if_neg (by omega), if_neg (by omega), if_neg (by omega), if_neg (by omega), if_neg (by omega), if_neg (by omega), if_neg (by omega), if_neg (by omega), if_neg (by omega)]
      rfl
    · obtain rfl | rfl | rfl | rfl | rfl | rfl | rfl | rfl | rfl : x = 1 ∨ x = 2 ∨ x = 3 ∨ x = 4 ∨ x = 5 ∨ x = 6 ∨ x = 7 ∨ x = 8 ∨ x = 9 := by omega
      all_goals (cases e <;> cases l <;> cases h <;> cases a <;> rfl)
  obtain ⟨r, hr⟩ := Option.isSome_iff_exists.1 this
  rw [stp]; simp only [hr, Option.getD_some]
def ready (s : St) : Bool := (s.2.2.1 || (!s.1 && s.2.1)) && !s.2.2.2
def pend (s : St) : Bool := s.2.2.1 || (!s.1 && s.2.1)
theorem pend_is (e l h a : Bool) : irq_Pending.f e l h a = some (pend (e, l, h, a)) := by cases e <;> cases l <;> cases h <;> cases a <;> rfl
theorem ready_is (e l h a : Bool) : irq_Ready.f e l h a = some (ready (e, l, h, a)) := by cases e <;> cases l <;> cases h <;> cases a <;> rfl
end Go.Proofs.Ytmioioaapikbkaa.Pure
