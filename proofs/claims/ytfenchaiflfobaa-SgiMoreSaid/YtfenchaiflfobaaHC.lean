/- The contracts by hand once more, in the form in which the printed texts ask for them. -/
import Derived.Test.YtfenchaiflfobaaH2
namespace Go.Proofs.Ytfenchaiflfobaa
open Go.RowKit Go.Proofs.YtfenchaiflfobaaW.PrintWords

def crierlaw12_to.f (_a0_0 : Int) (a0_1 : Bool) (a0_2 : Int) (a0_3 : Bool) (a1 : Int) (a2 : Int) : Option (List Int) := some (toL a0_1 a0_3 a0_2 a1 a2)
theorem crierlaw12_to.calls (a0_0 : Int) (a0_1 : Bool) (a0_2 : Int) (a0_3 : Bool) (a1 : Int) (a2 : Int) (r : List Int) (w : World) (h : crierlaw12_to.f a0_0 a0_1 a0_2 a0_3 a1 a2 = some r) :
    Calls Try.prog 15 #[.agg #[.int .i64 a0_0, .bool a0_1, .int .i64 a0_2, .bool a0_3], .int .i64 a1, .int .i64 a2] w fun e w' => ∃ v0_ : Value, e = .returned (v0_) ∧ Kd.R (Kd.int .i64) 3 w' w.heap.size (fun _ => True) v0_ r ∧ Below w.heap.size w w' := by
  obtain rfl := Option.some.inj h
  refine (to_c a0_0 a0_1 a0_2 a0_3 a1 a2 w).mono fun e w' ⟨v, he, hr, hb⟩ => ⟨v, he, Kd.R_of_own hr (fun _ _ => trivial), hb⟩

def sgi_Many.f (_a0_0 : Int) (a0_1 : Bool) (a0_2 : Int) (a0_3 : Bool) (a1 : Int) (a2 : Int) : Option (Int) := some ((toL a0_1 a0_3 a0_2 a1 a2).length : Int)
theorem sgi_Many.calls (a0_0 : Int) (a0_1 : Bool) (a0_2 : Int) (a0_3 : Bool) (a1 : Int) (a2 : Int) (r : Int) (w : World) (h : sgi_Many.f a0_0 a0_1 a0_2 a0_3 a1 a2 = some r) :
    Calls Try.prog 16 #[.agg #[.int .i64 a0_0, .bool a0_1, .int .i64 a0_2, .bool a0_3], .int .i64 a1, .int .i64 a2] w fun e w' => e = .returned (.int .i64 r) ∧ Below w.heap.size w w' := by
  obtain rfl := Option.some.inj h
  exact Many_c a0_0 a0_1 a0_2 a0_3 a1 a2 w

/-- a road that is not gone: words have 64 bits -/
def bits_OnesCount32.f (_a0 : Int) : Option (Int) := none
theorem bits_OnesCount32.calls (a0 : Int) (r : Int) (w : World) (h : bits_OnesCount32.f a0 = some r) :
    Calls Try.prog 25 #[.int .u32 a0] w fun e w' => e = .returned (.int .i64 r) ∧ Below w.heap.size w w' := by cases h
end Go.Proofs.Ytfenchaiflfobaa
