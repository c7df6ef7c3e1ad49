/- The contracts by hand once more, in the form in which the printed texts ask for them. -/
import Derived.Test.YtafmacngboeanaaH4
import Derived.Test.YtafmacngboeanaaWWords
namespace Go.Proofs.Ytafmacngboeanaa
open Go.RowKit Go.Proofs.YtafmacngboeanaaW.PrintWords
def ladder_Of.f (l0 : List Int) : Option (Int × Int) := some (l0.getD 0 0, l0.getD 1 0)
theorem ladder_Of.calls (A0 : Option Addr) (c0 : Nat) (l0 : List Int) (r1 : Int) (r2 : Int) (w : World) (hr0 : Kd.C (Kd.int .u32) w A0 l0.length l0) (_hc0 : l0.length ≤ c0) (h : ladder_Of.f l0 = some (r1, r2)) :
    Calls Try.prog 10 #[.slice A0 l0.length c0] w fun e w' => e = .returned (.agg #[.int .u32 r1, .int .u32 r2]) ∧ Below w.heap.size w w' := by
  obtain ⟨rfl, rfl⟩ := Prod.mk.inj (Option.some.inj h)
  exact Of_c A0 c0 l0 w (Kd.reads_of_C (d := (0 : Int)) hr0).2.2
def ladder_Ladder_Running.f (a0_0 : Int) (a0_1 : Int) : Option (Int × Int) := some ((top a0_0 a0_1).1, (top a0_0 a0_1).2)
theorem ladder_Ladder_Running.calls (a0_0 : Int) (a0_1 : Int) (r1 : Int) (r2 : Int) (w : World) (h : ladder_Ladder_Running.f a0_0 a0_1 = some (r1, r2)) :
    Calls Try.prog 11 #[.agg #[.int .u32 a0_0, .int .u32 a0_1]] w fun e w' => e = .returned (.tuple #[.int .i64 r1, .int .i64 r2]) ∧ Below w.heap.size w w' := by
  obtain ⟨rfl, rfl⟩ := Prod.mk.inj (Option.some.inj h)
  exact Running_c a0_0 a0_1 w
def ladder_Ladder_Drop.f (a0_0 : Int) (a0_1 : Int) : Option (Int × Int × Bool) := some (dropA a0_0 a0_1, dropB a0_0 a0_1, some? a0_0 a0_1)
theorem ladder_Ladder_Drop.calls (a0_0 : Int) (a0_1 : Int) (r1 : Int) (r2 : Int) (r3 : Bool) (w : World) (h : ladder_Ladder_Drop.f a0_0 a0_1 = some (r1, r2, r3)) :
    Calls Try.prog 13 #[.agg #[.int .u32 a0_0, .int .u32 a0_1]] w fun e w' => e = .returned (.tuple #[.agg #[.int .u32 r1, .int .u32 r2], .bool r3]) ∧ Below w.heap.size w w' := by
  simp only [ladder_Ladder_Drop.f, Option.some.injEq, Prod.mk.injEq] at h
  obtain ⟨rfl, rfl, rfl⟩ := h
  exact Drop_c a0_0 a0_1 w
def ladder_Ladder_Push.f (a0_0 : Int) (a0_1 : Int) (a1 : Int) (a2 : Int) : Option (Int × Int) := some (setA .or a0_0 a1 a2, setB .or a0_1 a1 a2)
theorem ladder_Ladder_Push.calls (a0_0 : Int) (a0_1 : Int) (a1 : Int) (a2 : Int) (r1 : Int) (r2 : Int) (w : World) (h : ladder_Ladder_Push.f a0_0 a0_1 a1 a2 = some (r1, r2)) :
    Calls Try.prog 12 #[.agg #[.int .u32 a0_0, .int .u32 a0_1], .int .i64 a1, .int .i64 a2] w fun e w' => e = .returned (.agg #[.int .u32 r1, .int .u32 r2]) ∧ Below w.heap.size w w' := by
  obtain ⟨rfl, rfl⟩ := Prod.mk.inj (Option.some.inj h)
  exact Push_c a0_0 a0_1 a1 a2 w
def crierlaw08_All.f (a0_0 : Int) (a0_1 : Int) : Option (List Int) := some (flat (allL a0_0 a0_1))
theorem crierlaw08_All.calls (a0_0 : Int) (a0_1 : Int) (r : List Int) (w : World) (h : crierlaw08_All.f a0_0 a0_1 = some r) :
    Calls Try.prog 24 #[.agg #[.int .u32 a0_0, .int .u32 a0_1]] w fun e w' => ∃ v0_ : Value, e = .returned (v0_) ∧ Kd.R (Kd.int .i64) 3 w' w.heap.size (fun _ => True) v0_ r ∧ Below w.heap.size w w' := by
  obtain rfl := Option.some.inj h
  refine (lawAll_c a0_0 a0_1 w).mono fun e w' ⟨v, he, hr, hb⟩ => ⟨v, he, Kd.R_of_own hr (fun _ _ => trivial), hb⟩
end Go.Proofs.Ytafmacngboeanaa
