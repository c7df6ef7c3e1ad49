/- The contract by hand once more, in the form in which the printed texts ask for it. -/
import Derived.Test.YtmioioaapikbkaaH
import Derived.Test.YtmioioaapikbkaaWWords
namespace Go.Proofs.Ytmioioaapikbkaa
open Go.RowKit Go.Proofs.YtmioioaapikbkaaW.PrintWords

def irq_Text.f (a0_0 : Bool) (a0_1 : Bool) (a0_2 : Bool) (a0_3 : Bool) : Option (ByteArray) := some ⟨(tx3 a0_0 a0_1 a0_2 a0_3).toArray⟩
theorem irq_Text.calls (a0_0 : Bool) (a0_1 : Bool) (a0_2 : Bool) (a0_3 : Bool) (r : ByteArray) (w : World) (h : irq_Text.f a0_0 a0_1 a0_2 a0_3 = some r) :
    Calls Try.prog 17 #[.agg #[.bool a0_0, .bool a0_1, .bool a0_2, .bool a0_3]] w fun e w' => e = .returned (.string r) ∧ Below w.heap.size w w' := by
  obtain rfl := Option.some.inj h
  exact Text_c a0_0 a0_1 a0_2 a0_3 w
end Go.Proofs.Ytmioioaapikbkaa
