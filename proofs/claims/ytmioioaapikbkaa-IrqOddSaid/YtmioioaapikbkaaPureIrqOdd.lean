/- An act of no kind changes nothing, and acts that have been done once change nothing when they are done again at once: for every input. -/
import Derived.Test.YtmioioaapikbkaaP0
import Derived.Test.YtmioioaapikbkaaIAllx8
namespace Go.Proofs.Ytmioioaapikbkaa.Pure
open Go.RowKit Go.Proofs.Ytmioioaapikbkaa.IAll Go.Proofs.YtmioioaapikbkaaW.PrintWords Go.Proofs.YtmioioaapikbkaaW.PrintLast Go.Proofs.YtmioioaapikbkaaW.PrintMore

theorem odd_step (e l h a : Bool) (x : Int) (hx : x < 1 ∨ x > 9) : irq_Step.f e l h a x = some (e, l, h, a) := by
  unfold irq_Step.f
  rw [if_neg (by omega), if_neg (by omega), if_neg (by omega), if_neg (by omega), if_neg (by omega), if_neg (by omega), if_neg (by omega), if_neg (by omega), if_neg (by omega)]
theorem IrqOdd (e l h a : Bool) (x : Int) : crierlaw07_IrqOdd.f 20 e l h a x = some true := by
  unfold crierlaw07_IrqOdd.f
  rw [awake20]
  by_cases hx : x < 1 ∨ x > 9
  · rw [odd_step e l h a x hx, Option.bind_some]
    simp only
    rw [odd_step e l h a x hx, Option.bind_some]
    simp only [Option.bind_some, if_true]
    by_cases h1 : x < 1
    · rw [if_pos h1]; simp
    · rw [if_neg h1, if_pos (by omega)]; simp
  · obtain rfl | rfl | rfl | rfl | rfl | rfl | rfl | rfl | rfl : x = 1 ∨ x = 2 ∨ x = 3 ∨ x = 4 ∨ x = 5 ∨ x = 6 ∨ x = 7 ∨ x = 8 ∨ x = 9 := by omega
    all_goals (cases e <;> cases l <;> cases h <;> cases a <;> rfl)
theorem irqOdd_both (e l h a : Bool) (x : Int) (_ : (Lit.int .i64 x).wf = true) (w : World) :
    Calls Try.prog 6 #[.agg #[.bool e, .bool l, .bool h, .bool a], .int .i64 x] w fun en w' => en = .returned (.bool true) ∧ Below w.heap.size w w' :=
  crierlaw07_IrqOdd.calls 20 e l h a x true w (IrqOdd e l h a x) (Aside0.mk rfl)
end Go.Proofs.Ytmioioaapikbkaa.Pure
