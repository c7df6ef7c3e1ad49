/- A region that draws its order, inside a round of a loop over an iterator: by the walk of such a region outside of any round, if nothing of it is put off. Generic text. -/
import Derived.Test.YtbglgblngfbhbaaNm
import Derived.Test.YtbglgblngfbhbaaIt
import Derived.Deep.RegionHeld
namespace Go.Proofs.Ytbglgblngfbhbaa
open Go.RowKit Go.Shelf
/-- none of these operations puts a call off -/
def noDefer (ops : Array Oper) : Bool := ops.all fun o => match o.op with | .defer _ => false | _ => true
theorem noDefer_at {ops : Array Oper} (h : noDefer ops = true) {i : Nat} {o : Oper} (ho : ops[i]? = some o) (c : Call) : o.op ≠ .defer c := by
  obtain ⟨hi, rfl⟩ := Array.getElem?_eq_some_iff.1 ho
  have := Array.all_eq_true.1 h i hi
  intro e
  simp [e] at this
section
variable {P : Program} {ops : Array Oper} {Q : Exit → Act → World → Prop} {md : Region.Mode} {l n : Nat}
theorem wpOpIn_of_op (hd : noDefer ops = true) (hQ : ¬ LetsOut Q) {i : Nat} {K K' : Act → World → Prop} (hK : ∀ a w, K a w → K' a w) {a : Act} {w : World} (h : wpOp P ops Q i K a w) : wpOpIn (Fence.wide.inRound l) n P ops Q i K' a w := by
  unfold wpOp at h
  unfold wpOpIn
  cases ho : ops[i]? with
  | none => simp only [ho] at h; exact hK _ _ h
  | some o =>
    simp only [ho] at h ⊢
    by_cases hw : Region.wanted o (yielded ops a.tmps) = true
    · simp only [hw, if_true] at h ⊢
      rcases h with h | ⟨_, h⟩
      · refine ⟨fun _ _ => trivial, ?_⟩
        rw [Fence.inRound_round, Oper.semAt_some _ _ _ (noDefer_at hd ho)]
        unfold Oper.wp at h
        generalize (execOp a.eval o).run P w = r at h ⊢
        cases r with
        | ok x w' =>
          cases x with
          | value v => exact hK _ _ h
          | skip => exact hK _ _ h
          | defer d => exact hK _ _ h
          | enter f args =>
            simp only [Oper.upon, Oper.uponIn] at h ⊢
            refine ⟨fun hh => by simp [Fence.wide] at hh, CallsIn.inRound l (callsIn_wide.2 (h.mono ?_))⟩
            intro e w'' he
            cases e with
            | returned v => exact hK _ _ he
            | panicked c => exact he
            | outgrown => exact he
          | row row args =>
            simp only [Oper.upon, Oper.uponIn] at h ⊢
            refine ⟨fun hh => by simp [Fence.wide] at hh, fun c cs _ => ?_⟩
            obtain ⟨v, w'', hr, hs⟩ := h c cs
            exact ⟨v, w'', hK _ _ hr, stepsIn_wide.2 hs⟩
          | _ => exact h.elim
        | halt x w' =>
          cases x <;> first | exact h | exact h.elim
      · exact absurd h hQ
    · simp only [hw] at h ⊢
      exact ⟨fun _ _ => trivial, hK _ _ h⟩
theorem wpAnyIn_of_any (hd : noDefer ops = true) (hQ : ¬ LetsOut Q) : ∀ (fuel : Nat) (listed : Array Bool) (a : Act) (w : World), wpAny P md ops Q fuel listed a w → wpAnyIn (Fence.wide.inRound l) n P md ops Q fuel listed a w
  | 0, _, _, _, h => h
  | fuel + 1, _, _, _, h => ⟨h.1, fun i hi => wpOpIn_of_op hd hQ (fun a w h' => wpAnyIn_of_any hd hQ fuel _ a w h') (h.2 i hi)⟩
theorem wpIn_region_held {S : World → Prop} {id : Nat} {a : Act} {w : World} (hm : P.follows .mixedOrders = true) (hd : noDefer ops = true) (hQ : ¬ LetsOut Q) (hS : S w.drew)
    (h : S w.drew → wpAnyH P .any ops Q S ops.size (Array.replicate ops.size false) a w.drew) : (Code.region id ops true).wpIn (Fence.wide.inRound l) n P Q a w :=
  wpIn_region_any hm (wpAnyIn_of_any hd hQ _ _ _ _ (wpAny_of_held _ _ _ _ (h hS)))
end
theorem wpIn_named {F : Fence} {n : Nat} {P : Program} {c : Code} {Q : Exit → Act → World → Prop} {a : Act} {w : World} (K : World → Prop) (hK : K w) (h : ∀ W, K W → c.wpIn F n P Q a W) : c.wpIn F n P Q a w := h w hK
theorem callsIn_named {F : Fence} {d : Nat} {P : Program} {f : FuncId} {args : Array Value} {R : Ending → World → Prop} {w : World} (K : World → Prop) (hK : K w) (h : ∀ W, K W → CallsIn F d P f args W R) : CallsIn F d P f args w R := h w hK
end Go.Proofs.Ytbglgblngfbhbaa
