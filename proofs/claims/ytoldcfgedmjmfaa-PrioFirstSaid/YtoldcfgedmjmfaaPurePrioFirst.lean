/- The first one of some interrupts has none ahead of it, and stands at the first place of its like: for every input, with no condition. -/
import Derived.Test.YtoldcfgedmjmfaaL06b
namespace Go.Proofs.Ytoldcfgedmjmfaa.Pure
open Go.RowKit Go.Proofs.Ytoldcfgedmjmfaa.IAll Go.Proofs.YtoldcfgedmjmfaaW.PrintWords Go.Proofs.YtoldcfgedmjmfaaW.PrintLast

theorem PrioFirst : crierlaw06_PrioFirst.Pure := by
  intro ps ids _ h8 _ _ _ _
  refine ⟨min ps.length ids.length + 2, ?_⟩
  unfold crierlaw06_PrioFirst.f
  have e : mn (ps.length : Int) (ids.length : Int) = ((min ps.length ids.length : Nat) : Int) := by unfold mn; split <;> omega
  rw [awake_true, first_is ps ids h8 _ (by omega), e]
  have hn : min ps.length ids.length ≤ ps.length ∧ min ps.length ids.length ≤ ids.length := by omega
  have hinv := inv_all ps ids (min ps.length ids.length) 0 (-1) (.inl ⟨rfl, rfl⟩)
  generalize min ps.length ids.length = n at *
  simp only [Option.bind_some, if_true, Nat.zero_add] at hinv ⊢
  generalize firstFrom ps ids n 0 (-1) = best at *
  rcases hinv with ⟨rfl, rfl⟩ | ⟨h0, h1, h2, h3⟩
  · rw [if_pos (show ((0 : Nat) : Int) = 0 from rfl), crierlaw06_PrioFirst.j0]; simp
  · rw [if_neg (by omega), if_neg (by omega), decide_eq_false (by omega), crierlaw06_PrioFirst.j0]
    simp only [Bool.false_eq_true, if_false]
    exact law_l0 ps ids n hn.1 hn.2 (by omega) best h0 h1 h2 h3 n _ 0 (by omega) (by omega)

end Go.Proofs.Ytoldcfgedmjmfaa.Pure
