/- One that goes by its level waits just as long as its line is high, as long as nobody sets it: for every input. -/
import Derived.Test.YtmioioaapikbkaaP0
import Derived.Test.YtmioioaapikbkaaIAllx6
namespace Go.Proofs.Ytmioioaapikbkaa.Pure
open Go.RowKit Go.Proofs.Ytmioioaapikbkaa.IAll Go.Proofs.YtmioioaapikbkaaW.PrintWords Go.Proofs.YtmioioaapikbkaaW.PrintLast Go.Proofs.YtmioioaapikbkaaW.PrintMore

theorem level_step (l a : Bool) (x : Int) (h3 : x ≠ 3) (h8 : x ≠ 8) : ∃ l' a', irq_Step.f false l false a x = some (false, l', false, a') := by
  by_cases hx : x < 1 ∨ x > 9
  · refine ⟨l, a, ?_⟩
    unfold irq_Step.f
    rw [if_neg (by omega), if_neg (by omega), if_neg (by omega), if_neg (by omega), if_neg (by omega), if_neg (by omega), if_neg (by omega), if_neg (by omega), if_neg (by omega)]
  · obtain rfl | rfl | rfl | rfl | rfl | rfl | rfl : x = 1 ∨ x = 2 ∨ x = 4 ∨ x = 5 ∨ x = 6 ∨ x = 7 ∨ x = 9 := by omega
    all_goals (cases l <;> cases a <;> exact ⟨_, _, rfl⟩)
theorem level_run (xs : List Int) (hn : xs.length ≤ 9223372036854775807) (m : Nat) : ∀ (K : Nat) (i : Int) (l a : Bool), 0 ≤ i → i + m = xs.length → crierlaw07_IrqLevel.l0 (2 * m + 1 + K) xs true i false l false a = some true := by
  induction m with
  | zero =>
    intro K i l a hi hm
    rw [show 2 * 0 + 1 + K = K + 1 by omega]
    unfold crierlaw07_IrqLevel.l0
    rw [if_neg (by omega)]
  | succ m ih =>
    intro K i l a hi hm
    rw [show 2 * (m + 1) + 1 + K = (2 * m + 1 + K + 1) + 1 by omega]
    have hskip : crierlaw07_IrqLevel.j1 (2 * m + 1 + K + 1) xs true i true false l false a = some true := by
      unfold crierlaw07_IrqLevel.j1
      rw [if_pos rfl, w64 _ (by omega)]
      exact ih K (i + 1) l a (by omega) (by omega)
    conv => lhs; unfold crierlaw07_IrqLevel.l0
    rw [if_pos (by omega), if_pos hi]
    by_cases h3 : rd xs i = 3
    · rw [if_pos h3]; exact hskip
    · rw [if_neg h3]
      by_cases h8 : rd xs i = 8
      · rw [h8]; exact hskip
      · rw [beq_eq_false_iff_ne.mpr h8]
        obtain ⟨l', a', hs⟩ := level_step l a (rd xs i) h3 h8
        unfold crierlaw07_IrqLevel.j1
        rw [if_neg (by simp), if_pos hi, if_pos (by omega), hs, Option.bind_some]
        have hp : irq_Pending.f false l' false a' = some l' := rfl
        dsimp only
        rw [hp, Option.bind_some, if_neg (by simp), if_neg (by simp), if_neg (by simp), w64 _ (by omega)]
        exact ih K (i + 1) l' a' (by omega) (by omega)
theorem IrqLevel (e l h a : Bool) (xs : List Int) (hn : xs.length ≤ 9223372036854775807) : crierlaw07_IrqLevel.f (2 * xs.length + 1 + 20) e l h a xs = some true := by
  unfold crierlaw07_IrqLevel.f
  rw [awake_true _ (by omega), Option.bind_some, if_pos rfl]
  exact level_run xs hn xs.length 20 0 l a (by omega) (by omega)
theorem irqLevel_both (e l h a : Bool) (A : Option Addr) (c : Nat) (xs : List Int) (w : World) (hr : Kd.C (Kd.int .i64) w A xs.length xs) (hc : xs.length ≤ c) (hm : c ≤ maxLen) (_ : ∀ p ∈ xs, (Lit.int .i64 p).wf = true) :
    Calls Try.prog 4 #[.agg #[.bool e, .bool l, .bool h, .bool a], .slice A xs.length c] w fun en w' => en = .returned (.bool true) ∧ Below w.heap.size w w' :=
  crierlaw07_IrqLevel.calls (2 * xs.length + 1 + 20) e l h a A c xs true w hr hc (IrqLevel e l h a xs (Nat.le_trans hc (Nat.le_trans hm (by unfold maxLen; omega)))) (Aside0.mk rfl)
end Go.Proofs.Ytmioioaapikbkaa.Pure
