/- An edge that rises so often, while nobody takes it, waits once: for every input. -/
import Derived.Test.YtmioioaapikbkaaP0
import Derived.Test.YtmioioaapikbkaaIAllx5
namespace Go.Proofs.Ytmioioaapikbkaa.Pure
open Go.RowKit Go.Proofs.Ytmioioaapikbkaa.IAll Go.Proofs.YtmioioaapikbkaaW.PrintWords Go.Proofs.YtmioioaapikbkaaW.PrintLast Go.Proofs.YtmioioaapikbkaaW.PrintMore

theorem edge (h : Bool) (k : Nat) (hk : 3 ≤ k) : crierlaw07_play.f k true false h false [1, 2] = some (true, false, true, false) := by
  have := more_rounds (g := fun k => crierlaw07_play.f k true false h false [1, 2]) (fun k => crierlaw07_play.mono _ _ _ _ _ k) 3 (k - 3) (true, false, true, false) (by cases h <;> decide +kernel)
  rwa [show 3 + (k - 3) = k by omega] at this
theorem once_run (n : Int) (h0 : 0 ≤ n) (m : Nat) : ∀ (K : Nat) (i : Int) (h : Bool), 0 ≤ i → i + m = n % 9 + 1 → (m = 0 → h = true) → crierlaw07_IrqOnce.l0 (m + 1 + (K + 3)) n true i true false h false = some true := by
  have hm : wrap64 (Int.tmod n 9) = n % 9 := by rw [Int.tmod_eq_emod_of_nonneg h0, w64 _ (by omega)]
  induction m with
  | zero =>
    intro K i h hi hm' hh
    obtain rfl := hh rfl
    rw [show 0 + 1 + (K + 3) = (K + 3) + 1 by omega]
    unfold crierlaw07_IrqOnce.l0
    rw [hm, if_neg (by omega)]
    rfl
  | succ m ih =>
    intro K i h hi hm' _
    rw [show m + 1 + 1 + (K + 3) = (m + 1 + (K + 3)) + 1 by omega]
    unfold crierlaw07_IrqOnce.l0
    rw [hm, if_pos (by omega), edge h _ (by omega), Option.bind_some, w64 _ (by omega)]
    exact ih K (i + 1) true (by omega) (by omega) (fun _ => rfl)
theorem irqOnce_both (e l h a : Bool) (n : Int) (hn : (Lit.int .u8 n).wf = true) (w : World) :
    Calls Try.prog 3 #[.agg #[.bool e, .bool l, .bool h, .bool a], .int .u8 n] w fun en w' => en = .returned (.bool true) ∧ Below w.heap.size w w' := by
  have hb := wf_u8 hn
  refine crierlaw07_IrqOnce.calls 40 e l h a n true w ?_ (Aside0.mk rfl)
  unfold crierlaw07_IrqOnce.f
  rw [awake_true 40 (by omega), Option.bind_some, if_pos rfl]
  have := once_run n hb.1 (n % 9 + 1).toNat (36 - (n % 9 + 1).toNat) 0 false (by omega) (by omega) (by omega)
  rwa [show (n % 9 + 1).toNat + 1 + (36 - (n % 9 + 1).toNat + 3) = 40 by omega] at this
end Go.Proofs.Ytmioioaapikbkaa.Pure
