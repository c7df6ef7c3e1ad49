/- What the printed laws of the ladder share: the examples, and what runs in a group. -/
import Derived.Test.YtafmacngboeanaaP0
import Derived.Test.YtafmacngboeanaaIAllx4
namespace Go.Proofs.Ytafmacngboeanaa.Pure
open Go.RowKit Go.Proofs.Ytafmacngboeanaa.IAll Go.Proofs.YtafmacngboeanaaW.PrintWords Go.Proofs.YtafmacngboeanaaW.PrintLast
theorem wf_u32 {a : Int} (h : (Lit.int .u32 a).wf = true) : W32 a := by
  simpa [Lit.wf, IntKind.min, IntKind.max, IntKind.signed, IntKind.bits, W32] using h
theorem w64 (n : Int) (h : -9223372036854775808 ≤ n ∧ n ≤ 9223372036854775807) : wrap64 n = n := IntWalk.wrap64_in n h
theorem awake10 : crierlaw08_awake.f 10 = some true := by decide +kernel
theorem len_is (a b : Int) (ha : W32 a) (hb : W32 b) : ladder_Ladder_Len.f a b = some (((pop a 32 + pop b 32 : Nat)) : Int) := by
  have h1 := pop_le a 32
  have h2 := pop_le b 32
  unfold ladder_Ladder_Len.f bits_OnesCount32.f
  rw [if_pos ⟨ha.1, by have := ha.2; omega⟩, if_pos ⟨hb.1, by have := hb.2; omega⟩, Option.bind_some, Option.bind_some, w64 _ (by omega)]
  congr 1
theorem allUpto_pop (a b : Int) (n : Nat) : (allUpto a b (2 * n)).length = pop a n + pop b n := by
  induction n with
  | zero => rfl
  | succ n ih =>
    rw [step1, step0, List.length_append, List.length_append, ih, pop, pop]
    split <;> split <;> simp <;> omega
theorem allL_pop (a b : Int) : (allL a b).length = pop a 32 + pop b 32 := allUpto_pop a b 32
end Go.Proofs.Ytafmacngboeanaa.Pure
