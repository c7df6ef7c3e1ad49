/- Along any acts, an interrupt's state, whether it waits, may be taken, its phase, and its letters, are what the document says: for every input. -/
import Derived.Test.YtmioioaapikbkaaIs2
namespace Go.Proofs.Ytmioioaapikbkaa.Pure
open Go.RowKit Go.Proofs.YtmioioaapikbkaaW.PrintWords
theorem irqSteps_both (e l h a : Bool) (A : Option Addr) (c : Nat) (xs : List Int) (w : World) (hr : Kd.C (Kd.int .i64) w A xs.length xs) (_ : xs.length ≤ c) (_ : c ≤ maxLen) (_ : ∀ p ∈ xs, (Lit.int .i64 p).wf = true) :
    Calls Try.prog 8 #[.agg #[.bool e, .bool l, .bool h, .bool a], .slice A xs.length c] w fun en w' => en = .returned (.bool true) ∧ Below w.heap.size w w' :=
  Is.steps_law (e, l, h, a) A xs.length c xs w hr
end Go.Proofs.Ytmioioaapikbkaa.Pure
