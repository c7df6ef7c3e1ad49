/- What preempts does so with a higher priority too, a mask that lets a priority through lets a higher one through, and a wider binary point lets no more through: for every input, with no condition. -/
import Derived.Test.YtoldcfgedmjmfaaL06
namespace Go.Proofs.Ytoldcfgedmjmfaa.Pure
open Go.RowKit Go.Proofs.Ytoldcfgedmjmfaa.IAll Go.Proofs.YtoldcfgedmjmfaaW.PrintWords Go.Proofs.YtoldcfgedmjmfaaW.PrintLast

theorem floor_mono (a b : Int) (j : Nat) (h : a ≤ b) : a / 2 ^ j * 2 ^ j ≤ b / 2 ^ j * 2 ^ j :=
  Int.mul_le_mul_of_nonneg_right (Int.ediv_le_ediv (Int.pow_pos (by decide)) h) (Int.le_of_lt (Int.pow_pos (by decide)))

theorem wide_small : ∀ i j : Fin 9, i.val ≤ j.val → bits .and .i64 (256 - 2 ^ j.val) (256 - 2 ^ i.val) = 256 - 2 ^ j.val := by decide +kernel

theorem wider (a : Int) (i j : Nat) (hij : i ≤ j) (hj : j ≤ 8) : a / 2 ^ j * 2 ^ j ≤ a / 2 ^ i * 2 ^ i := by
  have hi : i = 0 ∨ i = 1 ∨ i = 2 ∨ i = 3 ∨ i = 4 ∨ i = 5 ∨ i = 6 ∨ i = 7 ∨ i = 8 := by omega
  have hj : j = 0 ∨ j = 1 ∨ j = 2 ∨ j = 3 ∨ j = 4 ∨ j = 5 ∨ j = 6 ∨ j = 7 ∨ j = 8 := by omega
  rcases hi with rfl | rfl | rfl | rfl | rfl | rfl | rfl | rfl | rfl <;> rcases hj with rfl | rfl | rfl | rfl | rfl | rfl | rfl | rfl | rfl <;> first | (exfalso; omega) | (simp only [Int.reducePow]; omega)

theorem j0_is (k : Nat) (g pt a : Int) (ha : 0 ≤ a ∧ a ≤ 255) : crierlaw06_PrioHigher.j0 (k + 1) g pt a (maskZ g pt) false = some true := by
  rw [crierlaw06_PrioHigher.j0]
  unfold prio_Mask.f prio_Level.f
  rw [awake_true, and7, w64 (pt % 8 + 1) (by omega)]
  simp only [Option.bind_some, if_true, Bool.false_eq_true, if_false]
  have hj := maskJ_bd g pt
  have hj' := maskJ_bd g (mn 7 (pt % 8 + 1))
  have hle : maskJ g pt ≤ maskJ g (mn 7 (pt % 8 + 1)) := by
    unfold maskJ mn
    (repeat' split) <;> omega
  unfold maskZ
  generalize maskJ g pt = i at *
  generalize maskJ g (mn 7 (pt % 8 + 1)) = j at *
  have hw := wide_small ⟨i, by omega⟩ ⟨j, by omega⟩ hle
  simp only at hw
  rw [hw, and_bytemask _ _ (by omega), and_bytemask _ _ (by omega), show a % 256 = a by omega, if_pos (wider a i j hle (by omega))]
  simp

theorem PrioHigher : crierlaw06_PrioHigher.Pure := by
  intro p q r g pt m hp hq hr hg hpt hm
  have hp := wf_u8 hp
  have hq := wf_u8 hq
  refine ⟨1, ?_⟩
  unfold crierlaw06_PrioHigher.f prio_Mask.f prio_Preempts.f prio_Passes.f
  have hmx : 0 ≤ mx p q ∧ mx p q ≤ 255 := by unfold mx; split <;> omega
  have hmn : 0 ≤ mn p q ∧ mn p q ≤ 255 := by unfold mn; split <;> omega
  have hlt : mn p q ≤ mx p q := by unfold mn mx; (repeat' split) <;> omega
  have hfl := floor_mono _ _ (maskJ g pt) hlt
  have h0 := j0_is 0 g pt _ hmn
  have ha : bits .and .i64 (mx p q) (maskZ g pt) = mx p q / 2 ^ maskJ g pt * 2 ^ maskJ g pt := by
    unfold maskZ; rw [and_bytemask _ _ (maskJ_bd g pt).2, show mx p q % 256 = mx p q by omega]
  have hb : bits .and .i64 (mn p q) (maskZ g pt) = mn p q / 2 ^ maskJ g pt * 2 ^ maskJ g pt := by
    unfold maskZ; rw [and_bytemask _ _ (maskJ_bd g pt).2, show mn p q % 256 = mn p q by omega]
  rw [w64 _ (by omega), w64 _ (by omega)]
  simp only [Option.bind_some, ha, hb]
  by_cases c1 : mx p q / 2 ^ maskJ g pt * 2 ^ maskJ g pt < r
  · have c2 : mn p q / 2 ^ maskJ g pt * 2 ^ maskJ g pt < r := by omega
    by_cases c3 : mx p q < m
    · have c4 : mn p q < m := by omega
      simp [c1, c2, c3, c4, h0]
    · simp [c1, c2, c3, h0]
  · by_cases c3 : mx p q < m
    · have c4 : mn p q < m := by omega
      simp [c1, c3, c4, h0]
    · simp [c1, c3, h0]

end Go.Proofs.Ytoldcfgedmjmfaa.Pure
