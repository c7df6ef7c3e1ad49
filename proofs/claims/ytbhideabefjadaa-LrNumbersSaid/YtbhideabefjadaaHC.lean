/- The contracts by hand once more, in the form in which the printed texts ask for them. -/
import Derived.Test.YtbhideabefjadaaH5
namespace Go.Proofs.Ytbhideabefjadaa
open Go.RowKit Go.Shelf Go.Proofs.YtbhideabefjadaaW.PrintWords Go.Proofs.YtbhideabefjadaaW.PrintMore Go.Proofs.Ytbhideabefjadaa.IAll
theorem fld33_0 (a b c : Int) (d : Bool) (w : World) : (Instr.field 33 (.agg #[.int .i64 a, .int .i64 b, .int .i64 c, .bool d]) 0).run Try.prog w = .ok (.int .i64 a) w := by kernel_rfl
attribute [go_sem] fld33_0
def lr_Used.f (l0 : List S24) : Option Int := if l0.length ≤ 9223372036854775807 then some ((l0.length : Int) - (places pFree l0).length) else none
theorem lr_Used.calls (A0 : Option Addr) (c0 : Nat) (l0 : List S24) (r : Int) (w : World) (hr0 : Kd.C k24 w A0 l0.length l0) (_hc0 : l0.length ≤ c0) (h : lr_Used.f l0 = some r) :
    Calls Try.prog 25 #[.slice A0 l0.length c0] w fun e w' => e = .returned (.int .i64 r) ∧ Below w.heap.size w w' := by
  unfold lr_Used.f at h
  split at h
  · rename_i hl
    obtain rfl := Option.some.inj h
    exact Used_c A0 c0 l0 w hr0 hl
  · cases h
def lr_Find.f (l0 : List S24) (a1 : Int) : Option Int := if l0.length ≤ 9223372036854775807 then some (findOf l0 a1) else none
theorem lr_Find.calls (A0 : Option Addr) (c0 : Nat) (l0 : List S24) (a1 : Int) (r : Int) (w : World) (hr0 : Kd.C k24 w A0 l0.length l0) (_hc0 : l0.length ≤ c0) (h : lr_Find.f l0 a1 = some r) :
    Calls Try.prog 21 #[.slice A0 l0.length c0, .int .i64 a1] w fun e w' => e = .returned (.int .i64 r) ∧ Below w.heap.size w w' := by
  unfold lr_Find.f at h
  split at h
  · rename_i hl
    obtain rfl := Option.some.inj h
    exact Find_c A0 c0 l0 a1 w hr0 hl
  · cases h
def lr_Best.f (l0 : List S24) : Option (Int × Int × Int × Bool) := if l0.length ≤ 9223372036854775807 then some ((bestOf l0 (places pWaits l0)).id, (bestOf l0 (places pWaits l0)).pr, (bestOf l0 (places pWaits l0)).gr, (bestOf l0 (places pWaits l0)).is) else none
theorem lr_Best.calls (A0 : Option Addr) (c0 : Nat) (l0 : List S24) (r1 : Int) (r2 : Int) (r3 : Int) (r4 : Bool) (w : World) (hr0 : Kd.C k24 w A0 l0.length l0) (_hc0 : l0.length ≤ c0) (h : lr_Best.f l0 = some (r1, r2, r3, r4)) :
    Calls Try.prog 11 #[.slice A0 l0.length c0] w fun e w' => e = .returned (.agg #[.int .i64 r1, .int .i64 r2, .int .i64 r3, .bool r4]) ∧ Below w.heap.size w w' := by
  unfold lr_Best.f at h
  split at h
  · rename_i hl
    simp only [Option.some.injEq, Prod.mk.injEq] at h
    obtain ⟨rfl, rfl, rfl, rfl⟩ := h
    exact Best_c A0 c0 l0 w hr0 hl
  · cases h
def List_Free.f (l0 : List S24) : Option (List Int) := if l0.length ≤ 5000 then some (places pFree l0) else none
theorem List_Free.calls (A0 : Option Addr) (c0 : Nat) (l0 : List S24) (r : List Int) (w : World) (hr0 : Kd.C k24 w A0 l0.length l0) (_hc0 : l0.length ≤ c0) (h : List_Free.f l0 = some r) :
    Calls Try.prog 24 #[seqV w] (two A0 l0.length c0 (.func (.func 28) #[] #[]) w) fun e w' => ∃ v0_ : Value, e = .returned (v0_) ∧ Kd.R (Kd.int .i64) 3 w' w.heap.size (fun _ => True) v0_ r ∧ Below w.heap.size w w' := by
  unfold List_Free.f at h
  split at h
  · rename_i hl
    obtain rfl := Option.some.inj h
    have hs := two_size A0 l0.length c0 (.func (.func 28) #[] #[]) w
    refine (List_c 35 _ (places pFree l0) _ _ (fun k hk => hk.lt hr0 (by omega) (by omega) (fun k h => h.elim)) (enters_of Try.func35 (by kernel_rfl) rfl)
      (seq_iter pFree 28 #[] A0 c0 l0 (fun _ => False) w hr0 (by omega) (fun k h => h.elim) (free_in _ _ _) (enters_of Try.func28 (by kernel_rfl) rfl)) (by have := places_length pFree l0; omega)).mono fun e w' ⟨v, h1, h2, h3⟩ => ⟨v, h1, Kd.R_of_own (ownsRow_lower h2 (by omega)) (fun _ _ => trivial), (two_below _ _ _ _ w).trans (h3.mono (by omega))⟩
  · cases h
end Go.Proofs.Ytbhideabefjadaa
