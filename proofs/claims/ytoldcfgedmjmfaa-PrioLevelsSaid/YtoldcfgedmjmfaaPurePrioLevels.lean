/- Which levels a mask tells apart, how many a binary point does, and which of some interrupts comes first, is what the document says: for every input, with no condition. -/
import Derived.Test.YtoldcfgedmjmfaaL06b
namespace Go.Proofs.Ytoldcfgedmjmfaa.Pure
open Go.RowKit Go.Proofs.Ytoldcfgedmjmfaa.IAll Go.Proofs.YtoldcfgedmjmfaaW.PrintWords Go.Proofs.YtoldcfgedmjmfaaW.PrintLast

theorem same_l0 (xs : List Int) (h : xs.length ≤ 1000) (d : Nat) : ∀ (k i : Nat), i + d = xs.length → d < k → crierref01_Same.l0 k xs xs i = some true := by
  induction d with
  | zero =>
    intro k i hd hk
    obtain ⟨k, rfl⟩ : ∃ m, k = m + 1 := ⟨k - 1, by omega⟩
    rw [crierref01_Same.l0, if_neg (by omega)]
  | succ d ih =>
    intro k i hd hk
    obtain ⟨k, rfl⟩ : ∃ m, k = m + 1 := ⟨k - 1, by omega⟩
    have z := ih k (i + 1) (by omega) (by omega)
    rw [show (((i + 1 : Nat)) : Int) = (i : Int) + 1 by omega] at z
    rw [crierref01_Same.l0, if_pos (by omega), if_pos (by omega), if_pos (by omega), if_pos rfl, w64 (i + 1) (by omega), z]
theorem same_is (xs : List Int) (h : xs.length ≤ 1000) (k : Nat) (hk : xs.length < k) : crierref01_Same.f k xs xs = some true := by
  unfold crierref01_Same.f
  rw [if_pos rfl]
  exact same_l0 xs h xs.length k 0 (by omega) hk

theorem lastOf_at (xs : List Int) (h : xs ≠ []) : lastOf xs = rd xs ((xs.length : Int) - 1) := by
  unfold lastOf rd
  rw [List.getLast?_eq_getElem?, show ((xs.length : Int) - 1).toNat = xs.length - 1 by omega, List.getD_eq_getElem?_getD]
  have : 0 < xs.length := by cases xs; exact absurd rfl h; simp
  rw [List.getElem?_eq_getElem (by omega)]; rfl
theorem and_nonneg (a m : Int) (h0 : 0 ≤ a) (h1 : a ≤ 255) : 0 ≤ bits .and .i64 a m := by
  have ha : a % 2 ^ 8 = a := by omega
  have : bits .and .i64 a m = bits .and .i64 a m % 2 ^ 8 := by
    refine ext_i64 (bits_i64_in _ _ _) ⟨by omega, by omega⟩ fun k hk => ?_
    rw [tb_mod, tb_and_i _ _ _ hk]
    by_cases h : k < 8
    · simp [h]
    · have : tb a k = false := by rw [← ha, tb_mod]; simp [h]
      simp [h, this]
  rw [this]; exact Int.emod_nonneg _ (by decide)
theorem rlevels_l0 (m : Int) (d : Nat) : ∀ (k c : Nat), c + d = 32 → d < k → crierref06_Levels.l0 k m (lvUpto m c) (8 * c) = some (lv m) := by
  induction d with
  | zero =>
    intro k c hd hk
    obtain ⟨k, rfl⟩ : ∃ n, k = n + 1 := ⟨k - 1, by omega⟩
    obtain rfl : c = 32 := by omega
    rw [crierref06_Levels.l0, if_neg (by omega)]; rfl
  | succ d ih =>
    intro k c hd hk
    obtain ⟨k, rfl⟩ : ∃ n, k = n + 1 := ⟨k - 1, by omega⟩
    have z := ih k (c + 1) (by omega) (by omega)
    rw [show (8 * ((c + 1 : Nat) : Int)) = 8 * c + 8 by omega] at z
    have hl := lvUpto_length m c
    have hnn := and_nonneg (8 * c) m (by omega) (by omega)
    rw [crierref06_Levels.l0, if_pos (by omega), w64 (8 * c + 8) (by omega)]
    rw [lvUpto] at z
    by_cases he : lvUpto m c = []
    · rw [if_pos (by rw [he]; rfl), if_pos (by omega)]
      rw [if_neg (by rw [he]; simp [lastOf]; omega)] at z
      exact z
    · have hpos : 0 < (lvUpto m c).length := by
        rcases hx : lvUpto m c with _ | ⟨a, l⟩
        · exact absurd hx he
        · simp
      rw [if_neg (by omega), w64 _ (by omega), if_pos (by omega), if_pos (by omega), ← lastOf_at _ he]
      by_cases hq : lastOf (lvUpto m c) = bits .and .i64 (8 * c) m
      · rw [if_pos hq] at z ⊢; exact z
      · rw [if_neg hq] at z ⊢; rw [if_pos (by omega)]; exact z
theorem rlevels_is (m : Int) (k : Nat) (hk : 32 < k) : crierref06_Levels.f k m = some (lv m) := by
  unfold crierref06_Levels.f
  exact rlevels_l0 m 32 k 0 rfl hk

theorem PrioLevels : crierlaw06_PrioLevels.Pure := by
  intro m g pt ps ids _ _ _ _ h8 _ _ _ _
  refine ⟨2 * min ps.length ids.length + 100, ?_⟩
  unfold crierlaw06_PrioLevels.f crierlaw06_levels.f prio_Points.f
  have hl := lv_length m
  rw [awake_true, rlevels_is m _ (by omega), rmask_is _ (by omega), first_is ps ids h8 _ (by omega), rfirst_is ps ids h8 _ (by omega)]
  simp only [Option.bind_some, if_true]
  rw [same_is _ (by omega) _ (by omega), rlevels_is _ _ (by omega)]
  simp

end Go.Proofs.Ytoldcfgedmjmfaa.Pure
