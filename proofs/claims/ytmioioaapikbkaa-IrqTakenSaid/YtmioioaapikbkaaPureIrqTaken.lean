/- What is taken is active, and is ready no more until it is done with; what may not be taken stays as it is: for every input. -/
import Derived.Test.YtmioioaapikbkaaP0
import Derived.Test.YtmioioaapikbkaaIAllx7
namespace Go.Proofs.Ytmioioaapikbkaa.Pure
open Go.RowKit Go.Proofs.Ytmioioaapikbkaa.IAll Go.Proofs.YtmioioaapikbkaaW.PrintWords Go.Proofs.YtmioioaapikbkaaW.PrintLast Go.Proofs.YtmioioaapikbkaaW.PrintMore

theorem play_run (xs : List Int) (hn : xs.length ≤ 9223372036854775807) (m : Nat) : ∀ (K : Nat) (i : Int) (e l h a : Bool), 0 ≤ i → i + m = xs.length → ∃ r, crierlaw07_play.l0 (m + 1 + K) xs (xs.length : Int) i e l h a = some r := by
  induction m with
  | zero =>
    intro K i e l h a hi hm
    rw [show 0 + 1 + K = K + 1 by omega]
    unfold crierlaw07_play.l0
    rw [if_neg (by omega)]
    exact ⟨_, rfl⟩
  | succ m ih =>
    intro K i e l h a hi hm
    rw [show m + 1 + 1 + K = (m + 1 + K) + 1 by omega]
    unfold crierlaw07_play.l0
    rw [if_pos (by omega), if_pos hi, if_pos (by omega), step_is, Option.bind_some, w64 _ (by omega)]
    exact ih K (i + 1) _ _ _ _ (by omega) (by omega)
theorem taken_last (e l h a : Bool) : ((irq_Step.f e l h a 5).bind fun bt190 => ((irq_Ready.f e l h a).bind fun t195 => (if t195 = true then ((irq_Step.f bt190.1 bt190.2.1 bt190.2.2.1 bt190.2.2.2 6).bind fun bt196 => (if bt190.2.2.2 = true then (if bt190.2.2.1 = true then (some false) else ((irq_Ready.f bt190.1 bt190.2.1 bt190.2.2.1 bt190.2.2.2).bind fun t201 => (if t201 = true then (some false) else (if (bt190.2.1 == l) = true then (if (bt190.1 == e) = true then ((irq_Ready.f bt196.1 bt196.2.1 bt196.2.2.1 bt196.2.2.2).bind fun t202 => (if l = true then (some (t202 == (!e))) else (some (t202 == false)))) else (some false)) else (some false))))) else (some false))) else (some (bt190.1 == e && (bt190.2.1 == l && (bt190.2.2.1 == h && (bt190.2.2.2 == a)))))))) = some true := by
  cases e <;> cases l <;> cases h <;> cases a <;> rfl
theorem IrqTaken (e l h a : Bool) (xs : List Int) (hn : xs.length ≤ 9223372036854775807) : crierlaw07_IrqTaken.f (xs.length + 1 + 20) e l h a xs = some true := by
  unfold crierlaw07_IrqTaken.f
  rw [awake_true _ (by omega), Option.bind_some, if_pos rfl]
  obtain ⟨⟨e', l', h', a'⟩, hr⟩ := play_run xs hn xs.length 20 0 e l h a (by omega) (by omega)
  unfold crierlaw07_play.f
  rw [hr, Option.bind_some]
  exact taken_last e' l' h' a'
theorem irqTaken_both (e l h a : Bool) (A : Option Addr) (c : Nat) (xs : List Int) (w : World) (hr : Kd.C (Kd.int .i64) w A xs.length xs) (hc : xs.length ≤ c) (hm : c ≤ maxLen) (_ : ∀ p ∈ xs, (Lit.int .i64 p).wf = true) :
    Calls Try.prog 5 #[.agg #[.bool e, .bool l, .bool h, .bool a], .slice A xs.length c] w fun en w' => en = .returned (.bool true) ∧ Below w.heap.size w w' :=
  crierlaw07_IrqTaken.calls (xs.length + 1 + 20) e l h a A c xs true w hr hc (IrqTaken e l h a xs (Nat.le_trans hc (Nat.le_trans hm (by unfold maxLen; omega)))) (Aside0.mk rfl)
end Go.Proofs.Ytmioioaapikbkaa.Pure
