/- What runs in one group and what runs in the other one are all: for every input. -/
import Derived.Test.YtafmacngboeanaaP1
import Derived.Test.YtafmacngboeanaaIAllx9
namespace Go.Proofs.Ytafmacngboeanaa.Pure
open Go.RowKit Go.Proofs.Ytafmacngboeanaa.IAll Go.Proofs.YtafmacngboeanaaW.PrintWords Go.Proofs.YtafmacngboeanaaW.PrintLast

theorem groups_l1 (xs ys : List Int) (a b : Int) (ha : W32 a) (hb : W32 b) (hs : ys.Pairwise (· < ·)) (hh : ∀ y ∈ ys, has a b 1 y = true) (hy : ys.length ≤ 32) (hx : xs.length ≤ 32) (hsum : xs.length + ys.length = pop a 32 + pop b 32) (m : Nat) :
    ∀ (K : Nat) (j : Int), 0 ≤ j → j + m = ys.length → crierlaw08_LadderGroups.l1 (m + 1 + K) true xs ys j a b = some true := by
  induction m with
  | zero =>
    intro K j h0 hj
    rw [show 0 + 1 + K = K + 1 by omega]
    unfold crierlaw08_LadderGroups.l1
    rw [if_neg (by omega), if_pos rfl, len_is a b ha hb, Option.bind_some, w64 _ (by omega)]
    have : (xs.length : Int) + (ys.length : Int) = ((pop a 32 + pop b 32 : Nat) : Int) := by omega
    rw [this]; simp
  | succ m ih =>
    intro K j h0 hj
    rw [show m + 1 + 1 + K = (m + 1 + K) + 1 by omega]
    have hrec := ih K (j + 1) (by omega) (by omega)
    unfold crierlaw08_LadderGroups.l1 ladder_Ladder_Has.f
    rw [if_pos (by omega), if_pos h0, Option.bind_some, hh _ (rd_mem ys j h0 (by omega)), if_pos rfl, w64 (j + 1) (by omega)]
    by_cases hj0 : j > 0
    · have hlt := rd_sorted ys hs (j - 1) j (by omega) (by omega) (by omega)
      rw [if_pos hj0, w64 (j - 1) (by omega), if_pos (by omega), if_pos (by omega), if_neg (by omega)]
      exact hrec
    · rw [if_neg hj0]; exact hrec
theorem groups_l0 (xs ys : List Int) (a b : Int) (hs : xs.Pairwise (· < ·)) (hh : ∀ x ∈ xs, has a b 0 x = true) (hx : xs.length ≤ 32) (m : Nat) :
    ∀ (K : Nat) (j : Int), 0 ≤ j → j + m = xs.length → crierlaw08_LadderGroups.l0 (m + 1 + K) true xs ys j a b = crierlaw08_LadderGroups.l1 K true xs ys 0 a b := by
  induction m with
  | zero =>
    intro K j h0 hj
    rw [show 0 + 1 + K = K + 1 by omega]
    conv => lhs; unfold crierlaw08_LadderGroups.l0
    rw [if_neg (by omega)]
  | succ m ih =>
    intro K j h0 hj
    rw [show m + 1 + 1 + K = (m + 1 + K) + 1 by omega]
    have hrec := ih K (j + 1) (by omega) (by omega)
    conv => lhs; unfold crierlaw08_LadderGroups.l0
    unfold ladder_Ladder_Has.f
    rw [if_pos (by omega), if_pos h0, Option.bind_some, hh _ (rd_mem xs j h0 (by omega)), if_pos rfl, w64 (j + 1) (by omega)]
    by_cases hj0 : j > 0
    · have hlt := rd_sorted xs hs (j - 1) j (by omega) (by omega) (by omega)
      rw [if_pos hj0, w64 (j - 1) (by omega), if_pos (by omega), if_pos (by omega), if_neg (by omega)]
      exact hrec
    · rw [if_neg hj0]; exact hrec

theorem j0_step (k : Nat) (xs ys : List Int) (a b : Int) : crierlaw08_LadderGroups.j0 (k + 1) true xs ys false a b = crierlaw08_LadderGroups.l0 k true xs ys 0 a b := by
  conv => lhs; unfold crierlaw08_LadderGroups.j0
  simp
theorem groups_j0 (a b : Int) (ha : W32 a) (hb : W32 b) : crierlaw08_LadderGroups.j0 100 true (colL a 32) (colL b 32) false a b = some true := by
  have h1 := pop_le a 32
  have h2 := pop_le b 32
  have l1 := colL_length a 32
  have l2 := colL_length b 32
  rw [j0_step 99, show 99 = pop a 32 + 1 + (98 - pop a 32) by omega, groups_l0 (colL a 32) (colL b 32) a b (colL_sorted a 32) (fun x hx => by
      obtain ⟨k, hk, ht, rfl⟩ := colL_mem a 32 x hx
      rw [has_bits, show 2 * pl (8 * (k : Int)) + ((0 : Int) % 2).toNat = 2 * k by unfold pl; omega, rb_even]; exact ht) (by omega) _ _ 0 (by omega) (by omega),
    show 98 - pop a 32 = pop b 32 + 1 + (97 - pop a 32 - pop b 32) by omega]
  exact groups_l1 (colL a 32) (colL b 32) a b ha hb (colL_sorted b 32) (fun x hx => by
      obtain ⟨k, hk, ht, rfl⟩ := colL_mem b 32 x hx
      rw [has_bits, show 2 * pl (8 * (k : Int)) + ((1 : Int) % 2).toNat = 2 * k + 1 by unfold pl; omega, rb_odd]; exact ht) (by omega) (by omega) (by omega) _ _ 0 (by omega) (by omega)

theorem LadderGroups : crierlaw08_LadderGroups.Pure := by
  intro a b g ha hb hg
  have ha := wf_u32 ha
  have hb := wf_u32 hb
  refine ⟨100, ?_⟩
  unfold crierlaw08_LadderGroups.f crierlaw08_only.f
  rw [awake_true _ (by omega), Option.bind_some, if_pos rfl, show ladder_Of.f [a, b] = some (a, b) from rfl, Option.bind_some, Option.bind_some, Option.bind_some, show onlyOf 0 (allL a b) = colL a 32 from only0 a b 32, show onlyOf 1 (allL a b) = colL b 32 from only1 a b 32]
  have h := groups_j0 a b ha hb
  by_cases h0 : g = 0
  · rw [if_pos h0]; exact h
  · rw [if_neg h0]
    by_cases h1 : g = 1
    · rw [if_pos h1]; exact h
    · rw [if_neg h1, Option.bind_some, onlyNone a b g h0 h1]; exact h
end Go.Proofs.Ytafmacngboeanaa.Pure
