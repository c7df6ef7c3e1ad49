/- The contracts by hand once more, in the form in which the printed texts ask for them. -/
import Derived.Test.YtpjenhojldcmiaaH3
namespace Go.Proofs.Ytpjenhojldcmiaa
open Go.RowKit

def ladder_Ladder_Running.f (a0_0 : Int) (a0_1 : Int) : Option (Int × Int) := some ((top a0_0 a0_1).1, (top a0_0 a0_1).2)
theorem ladder_Ladder_Running.calls (a0_0 : Int) (a0_1 : Int) (r1 : Int) (r2 : Int) (w : World) (h : ladder_Ladder_Running.f a0_0 a0_1 = some (r1, r2)) :
    Calls Try.prog 33 #[.agg #[.int .u32 a0_0, .int .u32 a0_1]] w fun e w' => e = .returned (.tuple #[.int .i64 r1, .int .i64 r2]) ∧ Below w.heap.size w w' := by
  obtain ⟨rfl, rfl⟩ := Prod.mk.inj (Option.some.inj h)
  exact Running_c a0_0 a0_1 w
def ladder_Ladder_Drop.f (a0_0 : Int) (a0_1 : Int) : Option (Int × Int × Bool) := some (dropA a0_0 a0_1, dropB a0_0 a0_1, some? a0_0 a0_1)
theorem ladder_Ladder_Drop.calls (a0_0 : Int) (a0_1 : Int) (r1 : Int) (r2 : Int) (r3 : Bool) (w : World) (h : ladder_Ladder_Drop.f a0_0 a0_1 = some (r1, r2, r3)) :
    Calls Try.prog 36 #[.agg #[.int .u32 a0_0, .int .u32 a0_1]] w fun e w' => e = .returned (.tuple #[.agg #[.int .u32 r1, .int .u32 r2], .bool r3]) ∧ Below w.heap.size w w' := by
  simp only [ladder_Ladder_Drop.f, Option.some.injEq, Prod.mk.injEq] at h
  obtain ⟨rfl, rfl, rfl⟩ := h
  exact Drop_c a0_0 a0_1 w
def ladder_Ladder_Push.f (a0_0 : Int) (a0_1 : Int) (a1 : Int) (a2 : Int) : Option (Int × Int) := some (setA .or a0_0 a1 a2, setB .or a0_1 a1 a2)
theorem ladder_Ladder_Push.calls (a0_0 : Int) (a0_1 : Int) (a1 : Int) (a2 : Int) (r1 : Int) (r2 : Int) (w : World) (h : ladder_Ladder_Push.f a0_0 a0_1 a1 a2 = some (r1, r2)) :
    Calls Try.prog 31 #[.agg #[.int .u32 a0_0, .int .u32 a0_1], .int .i64 a1, .int .i64 a2] w fun e w' => e = .returned (.agg #[.int .u32 r1, .int .u32 r2]) ∧ Below w.heap.size w w' := by
  obtain ⟨rfl, rfl⟩ := Prod.mk.inj (Option.some.inj h)
  exact Push_c a0_0 a0_1 a1 a2 w
end Go.Proofs.Ytpjenhojldcmiaa
