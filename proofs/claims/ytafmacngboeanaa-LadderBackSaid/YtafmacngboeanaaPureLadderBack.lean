/- What is pushed on top of all that runs is what runs, and letting it go leads back: for every input. -/
import Derived.Test.YtafmacngboeanaaP1
import Derived.Test.YtafmacngboeanaaIAllx5
namespace Go.Proofs.Ytafmacngboeanaa.Pure
open Go.RowKit Go.Proofs.Ytafmacngboeanaa.IAll Go.Proofs.YtafmacngboeanaaW.PrintWords Go.Proofs.YtafmacngboeanaaW.PrintLast

theorem of_two (a b : Int) : ladder_Of.f [a, b] = some (a, b) := rfl

theorem LadderBack : crierlaw08_LadderBack.Pure := by
  intro a b g p ha hb hg hp
  have ha := wf_u32 ha
  have hb := wf_u32 hb
  have hp := wf_u8 hp
  refine ⟨10, ?_⟩
  unfold crierlaw08_LadderBack.f ladder_Ladder_Running.f ladder_Ladder_Push.f ladder_Ladder_Drop.f
  rw [awake10]
  simp only [Option.bind_some, if_true, of_two]
  have hq : wrap64 ((wrap64 (Int.tdiv (wrap64 p) 8)) * 8) = 8 * (p / 8) := by
    rw [w64 p (by omega), Int.tdiv_eq_ediv_of_nonneg (by omega), w64 (p / 8) (by omega), w64 _ (by omega)]; omega
  rw [hq]
  by_cases h : 8 * (p / 8) ≥ (top a b).1
  · rw [if_pos h]
  · rw [if_neg h]
    have hpl : (pl (8 * (p / 8)) : Int) = p / 8 := by unfold pl; omega
    have hpl2 := pl_lt (8 * (p / 8))
    have hlow : ∀ i, i ≤ 2 * pl (8 * (p / 8)) + (g % 2).toNat → rb a b i = false := by
      rcases least (rb a b) 64 with hn | ⟨n, h1, h2, h3⟩
      · intro i hi; exact hn i (by omega)
      · rw [top_first a b n h1 h2 h3] at h
        intro i hi
        exact h3 i (by simp only at h; omega)
    have hm := push_bits a b g (8 * (p / 8))
    obtain ⟨wa, wb⟩ := set_w32 .or a b g (8 * (p / 8)) ha hb
    have hn64 : 2 * pl (8 * (p / 8)) + (g % 2).toNat < 64 := by omega
    have hat : rb (setA .or a g (8 * (p / 8))) (setB .or b g (8 * (p / 8))) (2 * pl (8 * (p / 8)) + (g % 2).toNat) = true := by rw [hm _ hn64]; simp
    have hbel : ∀ i, i < 2 * pl (8 * (p / 8)) + (g % 2).toNat → rb (setA .or a g (8 * (p / 8))) (setB .or b g (8 * (p / 8))) i = false := by
      intro i hi
      rw [hm _ (by omega), hlow i (by omega), decide_eq_false (by omega)]; rfl
    have htop := top_first _ _ _ hn64 hat hbel
    have hsome := (drop_first _ _ _ hn64 hat hbel).2.2
    have hdrop := drop_bits _ _ _ hn64 hat hbel
    obtain ⟨da, db⟩ := drop_w32 _ _ wa wb
    have hback := rb_ext _ _ a b da db ha hb (fun i hi => by
      rw [hdrop i hi, hm i hi]
      by_cases e : i = 2 * pl (8 * (p / 8)) + (g % 2).toNat
      · rw [decide_eq_false (show ¬ i ≠ _ by omega), e, hlow _ (Nat.le_refl _)]; simp
      · rw [decide_eq_true (show i ≠ _ from e), decide_eq_false e]; simp)
    rw [htop, hsome, hback.1, hback.2, if_pos (by simp only; omega), if_pos (by rw [and1]; simp only; omega), if_pos rfl]
    simp
end Go.Proofs.Ytafmacngboeanaa.Pure
