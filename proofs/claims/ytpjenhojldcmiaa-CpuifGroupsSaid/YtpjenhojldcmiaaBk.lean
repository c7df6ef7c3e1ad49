/- Plain law: what is pushed below all that runs is what runs, and letting it go leads back. -/
import Derived.Test.YtpjenhojldcmiaaLp
import Derived.Test.YtpjenhojldcmiaaLadP
namespace Go.Proofs.Ytpjenhojldcmiaa
theorem back_pure (a b g lv : Int) (k : Nat) (hk : k < 32) (hlv : lv = 8 * (k : Int)) (ha : W32 a) (hb : W32 b) (h : lv < (top a b).1) :
    top (setA .or a g lv) (setB .or b g lv) = (lv, g % 2) ∧ dropA (setA .or a g lv) (setB .or b g lv) = a ∧ dropB (setA .or a g lv) (setB .or b g lv) = b := by
  have hpl : pl lv = k := by unfold pl; omega
  have hlow : ∀ i, i ≤ 2 * pl lv + (g % 2).toNat → rb a b i = false := by
    rcases least (rb a b) 64 with hn | ⟨n, h1, h2, h3⟩
    · intro i hi; exact hn i (by omega)
    · rw [top_first a b n h1 h2 h3] at h
      intro i hi
      exact h3 i (by simp only at h; omega)
  have hm := push_bits a b g lv
  obtain ⟨wa, wb⟩ := set_w32 .or a b g lv ha hb
  have hn64 : 2 * pl lv + (g % 2).toNat < 64 := by omega
  have hat : rb (setA .or a g lv) (setB .or b g lv) (2 * pl lv + (g % 2).toNat) = true := by rw [hm _ hn64]; simp
  have hbel : ∀ i, i < 2 * pl lv + (g % 2).toNat → rb (setA .or a g lv) (setB .or b g lv) i = false := by
    intro i hi
    rw [hm _ (by omega), hlow i (by omega), decide_eq_false (by omega)]; rfl
  have htop := top_first _ _ _ hn64 hat hbel
  have hdrop := drop_bits _ _ _ hn64 hat hbel
  obtain ⟨da, db⟩ := drop_w32 _ _ wa wb
  have hback := rb_ext _ _ a b da db ha hb (fun i hi => by
    rw [hdrop i hi, hm i hi]
    by_cases e : i = 2 * pl lv + (g % 2).toNat
    · rw [decide_eq_false (show ¬ i ≠ _ by omega), e, hlow _ (Nat.le_refl _)]; simp
    · rw [decide_eq_true (show i ≠ _ from e), decide_eq_false e]; simp)
  refine ⟨?_, hback.1, hback.2⟩
  rw [htop]
  refine Prod.ext ?_ ?_
  · show (8 * ((2 * pl lv + (g % 2).toNat) / 2 : Nat) : Int) = lv
    omega
  · show (((2 * pl lv + (g % 2).toNat) % 2 : Nat) : Int) = g % 2
    omega
end Go.Proofs.Ytpjenhojldcmiaa
