/- A ladder is empty behind as many drops as priorities run, which come rising, and not ahead of it: for every input. -/
import Derived.Test.YtafmacngboeanaaP1
import Derived.Test.YtafmacngboeanaaIAllx6
namespace Go.Proofs.Ytafmacngboeanaa.Pure
open Go.RowKit Go.Proofs.Ytafmacngboeanaa.IAll Go.Proofs.YtafmacngboeanaaW.PrintWords Go.Proofs.YtafmacngboeanaaW.PrintLast

theorem empties_run (m : Nat) : ∀ (a b last i n : Int), W32 a → W32 b → pop a 32 + pop b 32 = m → n - i = m → 0 ≤ i → n ≤ 64 → (∀ j : Nat, j < 64 → rb a b j = true → last ≤ 8 * (j / 2 : Nat)) →
    crierlaw08_LadderEmpties.l0 (m + 1) true n last i a b = some true := by
  induction m with
  | zero =>
    intro a b last i n ha hb hp hi h0 hn hl
    have hz : ∀ j, j < 64 → rb a b j = false := by
      intro j hj
      have e1 := pop_pos a 32 (by omega)
      have e2 := pop_pos b 32 (by omega)
      unfold rb; split
      · exact e1 _ (by omega)
      · exact e2 _ (by omega)
    obtain ⟨rfl, rfl⟩ := zero_of_bits a b ha hb hz
    unfold crierlaw08_LadderEmpties.l0 ladder_Ladder_Drop.f ladder_Ladder_Running.f
    obtain ⟨d1, d2, d3⟩ := drop_none 0 0 hz
    rw [if_neg (by omega), d1, d2, d3, top_none 0 0 hz]
    simp
  | succ m ih =>
    intro a b last i n ha hb hp hi h0 hn hl
    rcases least (rb a b) 64 with hz | ⟨q, h1, h2, h3⟩
    · obtain ⟨rfl, rfl⟩ := zero_of_bits a b ha hb hz
      rw [pop_zero] at hp; omega
    · have hd := drop_bits a b q h1 h2 h3
      obtain ⟨da, db⟩ := drop_w32 a b ha hb
      have hpop := drop_pop a b q h1 h2 h3
      have htop := top_first a b q h1 h2 h3
      have hsome := (drop_first a b q h1 h2 h3).2.2
      have hlq := hl q h1 h2
      have e1 : (2 * pl (8 * ((q / 2 : Nat) : Int)) + (((q % 2 : Nat) : Int) % 2).toNat) = q := by unfold pl; omega
      have hhas : has (dropA a b) (dropB a b) ((q % 2 : Nat) : Int) (8 * ((q / 2 : Nat) : Int)) = false := by
        rw [has_bits, e1, hd q h1]; simp
      have hrec := ih (dropA a b) (dropB a b) (8 * ((q / 2 : Nat) : Int)) (i + 1) n da db (by omega) (by omega) (by omega) hn (fun j hj hjt => by
        rw [hd j hj] at hjt
        simp only [Bool.and_eq_true, decide_eq_true_eq] at hjt
        rcases Nat.lt_or_ge j q with hlt | hge
        · rw [h3 j hlt] at hjt; cases hjt.1
        · omega)
      rw [show m + 1 + 1 = (m + 1) + 1 by omega]
      rw [show crierlaw08_LadderEmpties.l0 (m + 1 + 1) true n last i a b = _ from rfl]
      unfold crierlaw08_LadderEmpties.l0 ladder_Ladder_Drop.f ladder_Ladder_Running.f ladder_Ladder_Has.f
      simp only [Option.bind_some]
      rw [if_pos (by omega), hsome, if_pos rfl, htop, if_neg (by simp only; omega), len_is _ _ da db, len_is _ _ ha hb]
      simp only [Option.bind_some]
      rw [if_pos (by rw [w64 _ (by omega)]; omega), hhas, if_neg (by simp), w64 _ (by omega)]
      exact hrec

theorem LadderEmpties : crierlaw08_LadderEmpties.Pure := by
  intro a b ha hb
  have ha := wf_u32 ha
  have hb := wf_u32 hb
  have h1 := pop_le a 32
  have h2 := pop_le b 32
  refine ⟨pop a 32 + pop b 32 + 1 + 10, ?_⟩
  unfold crierlaw08_LadderEmpties.f
  rw [awake_true _ (by omega), Option.bind_some, if_pos rfl, show ladder_Of.f [a, b] = some (a, b) from rfl, Option.bind_some, len_is a b ha hb, Option.bind_some]
  exact more_rounds (g := fun k => crierlaw08_LadderEmpties.l0 k true ((pop a 32 + pop b 32 : Nat) : Int) (-1) 0 a b) (fun k => crierlaw08_LadderEmpties.mono_l k _ _ _ _ _ _) (pop a 32 + pop b 32 + 1) 10 _
    (empties_run (pop a 32 + pop b 32) a b (-1) 0 _ ha hb rfl (by omega) (by omega) (by omega) (fun j _ _ => by omega))
end Go.Proofs.Ytafmacngboeanaa.Pure
