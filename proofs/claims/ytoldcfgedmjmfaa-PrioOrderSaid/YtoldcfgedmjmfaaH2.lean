/- The contracts by hand once more, in the form in which the printed texts ask for them. -/
import Derived.Test.YtoldcfgedmjmfaaH
import Derived.Test.YtoldcfgedmjmfaaWWords
namespace Go.Proofs.Ytoldcfgedmjmfaa
open Go.RowKit Go.Proofs.YtoldcfgedmjmfaaW.PrintWords

def prio_Points.f (a0 : Int) (a1 : Int) : Option Int := some ((lv (maskZ a0 a1)).length : Int)
theorem prio_Points.calls (a0 : Int) (a1 : Int) (r : Int) (w : World) (h : prio_Points.f a0 a1 = some r) :
    Calls Try.prog 24 #[.int .i64 a0, .int .i64 a1] w fun e w' => e = .returned (.int .i64 r) ∧ Below w.heap.size w w' := by
  obtain rfl := Option.some.inj h
  exact Points_c a0 a1 w

def prio_Mask.f (a0 : Int) (a1 : Int) : Option Int := some (maskZ a0 a1)
theorem prio_Mask.calls (a0 : Int) (a1 : Int) (r : Int) (w : World) (h : prio_Mask.f a0 a1 = some r) :
    Calls Try.prog 13 #[.int .i64 a0, .int .i64 a1] w fun e w' => e = .returned (.int .i64 r) ∧ Below w.heap.size w w' := by
  obtain rfl := Option.some.inj h
  exact (Mask_c a0 a1 w).mono fun e w' ⟨he, hw⟩ => ⟨he, hw ▸ Below.refl _ _⟩

def crierlaw06_levels.f (a0 : Int) : Option (List Int) := some (lv a0)
theorem crierlaw06_levels.calls (a0 : Int) (r : List Int) (w : World) (h : crierlaw06_levels.f a0 = some r) :
    Calls Try.prog 22 #[.int .i64 a0] w fun e w' => ∃ v0_ : Value, e = .returned (v0_) ∧ Kd.R (Kd.int .i64) 3 w' w.heap.size (fun _ => True) v0_ r ∧ Below w.heap.size w w' := by
  obtain rfl := Option.some.inj h
  refine (levels_c a0 w).mono fun e w' ⟨v, he, hr, hb⟩ => ⟨v, he, Kd.R_of_own hr (fun _ _ => trivial), hb⟩
end Go.Proofs.Ytoldcfgedmjmfaa
