/- Plain lemmas on layer 6: the first of some interrupts; the levels of a mask. -/
import Derived.Test.YtoldcfgedmjmfaaL06
namespace Go.Proofs.Ytoldcfgedmjmfaa.Pure
open Go.RowKit Go.Proofs.Ytoldcfgedmjmfaa.IAll Go.Proofs.YtoldcfgedmjmfaaW.PrintWords Go.Proofs.YtoldcfgedmjmfaaW.PrintLast

/-- one interrupt ahead of another -/
def bef (p a q b : Int) : Bool := decide (p < q) || (decide (p = q) && decide (a < b))
theorem before_is (p a q b : Int) : prio_Before.f p a q b = some (bef p a q b) := by
  unfold prio_Before.f bef
  by_cases h : p < q
  · simp [h]
  · by_cases e : p = q
    · simp [e]
    · simp [h, e]

def pick (ps ids : List Int) (i : Nat) (best : Int) : Int :=
  if best < 0 then i else if bef (rd ps i) (rd ids i) (rd ps best) (rd ids best) then i else best
def firstFrom (ps ids : List Int) : Nat → Nat → Int → Int
  | 0, _, best => best
  | d + 1, i, best => firstFrom ps ids d (i + 1) (pick ps ids i best)

theorem pick_bd (ps ids : List Int) (i : Nat) (best : Int) (h : -1 ≤ best ∧ best < i) : 0 ≤ pick ps ids i best ∧ pick ps ids i best < (i + 1 : Nat) := by
  unfold pick; (repeat' split) <;> omega

theorem first_l0 (ps ids : List Int) (n : Nat) (hp : n ≤ ps.length) (hi : n ≤ ids.length) (hn : n ≤ 4611686018427387904) (d : Nat) : ∀ (k i : Nat) (best : Int), i + d = n → -1 ≤ best → best < i → d < k →
    prio_First.l0 k ps ids best n i = some (firstFrom ps ids d i best) := by
  induction d with
  | zero =>
    intro k i best hd h0 h1 hk
    obtain ⟨k, rfl⟩ : ∃ m, k = m + 1 := ⟨k - 1, by omega⟩
    rw [prio_First.l0, if_neg (by omega)]; rfl
  | succ d ih =>
    intro k i best hd h0 h1 hk
    obtain ⟨k, rfl⟩ : ∃ m, k = m + 1 := ⟨k - 1, by omega⟩
    have hb := pick_bd ps ids i best ⟨h0, h1⟩
    rw [prio_First.l0, if_pos (by omega), w64 (i + 1) (by omega)]
    have z := ih k (i + 1) (pick ps ids i best) (by omega) (by omega) (by omega) (by omega)
    rw [show (((i + 1 : Nat)) : Int) = (i : Int) + 1 by omega] at z
    rw [firstFrom, ← z]
    unfold pick
    by_cases hneg : best < 0
    · rw [if_pos hneg, if_pos hneg]
    · rw [if_neg hneg, if_neg hneg, if_pos (by omega), if_pos (by omega), if_pos (by omega), if_pos (by omega), if_pos (by omega), if_pos (by omega), before_is]
      simp only [Option.bind_some]
      split <;> rfl

theorem first_is (ps ids : List Int) (hp : ps.length * 8 ≤ 140737488351232) (k : Nat) (hk : min ps.length ids.length < k) :
    prio_First.f k ps ids = some (firstFrom ps ids (min ps.length ids.length) 0 (-1)) := by
  unfold prio_First.f
  have e : mn (ps.length : Int) (ids.length : Int) = ((min ps.length ids.length : Nat) : Int) := by unfold mn; split <;> omega
  rw [e]
  exact first_l0 ps ids _ (by omega) (by omega) (by omega) _ k 0 (-1) (by omega) (by omega) (by omega) hk

theorem rbefore_is (p a q b : Int) : crierref06_Before.f p a q b = some (bef p a q b) := by
  unfold crierref06_Before.f bef
  by_cases e : p = q
  · simp [e]
  · by_cases h : p < q
    · simp [h, e]
    · simp [h, e]

theorem rfirst_l0 (ps ids : List Int) (n : Nat) (hn : n = min ps.length ids.length) (hp : ps.length ≤ 4611686018427387904) (d : Nat) : ∀ (k i : Nat) (best : Int), i + d = n → -1 ≤ best → best < i → 2 * d + 1 < k →
    crierref06_First.l0 k ps ids best i = some (firstFrom ps ids d i best) := by
  induction d with
  | zero =>
    intro k i best hd h0 h1 hk
    obtain ⟨k, rfl⟩ : ∃ m, k = m + 2 := ⟨k - 2, by omega⟩
    rw [crierref06_First.l0]
    by_cases hlt : (i : Int) < (ps.length : Int)
    · rw [if_pos hlt, decide_eq_false (by omega), crierref06_First.j1]; simp [firstFrom]
    · rw [if_neg hlt, crierref06_First.j1]; simp [firstFrom]
  | succ d ih =>
    intro k i best hd h0 h1 hk
    obtain ⟨k, rfl⟩ : ∃ m, k = m + 2 := ⟨k - 2, by omega⟩
    have hb := pick_bd ps ids i best ⟨h0, h1⟩
    rw [crierref06_First.l0, if_pos (by omega), decide_eq_true (by omega), crierref06_First.j1, if_pos rfl, w64 (i + 1) (by omega)]
    have z := ih k (i + 1) (pick ps ids i best) (by omega) (by omega) (by omega) (by omega)
    rw [show (((i + 1 : Nat)) : Int) = (i : Int) + 1 by omega] at z
    rw [firstFrom, ← z]
    unfold pick
    by_cases hneg : best < 0
    · rw [if_pos hneg, if_pos hneg]
    · rw [if_neg hneg, if_neg hneg, if_pos (by omega), if_pos (by omega), if_pos (by omega), if_pos (by omega), if_pos (by omega), if_pos (by omega), rbefore_is]
      simp only [Option.bind_some]
      split <;> rfl

theorem rfirst_is (ps ids : List Int) (hp : ps.length * 8 ≤ 140737488351232) (k : Nat) (hk : 2 * min ps.length ids.length + 1 < k) :
    crierref06_First.f k ps ids = some (firstFrom ps ids (min ps.length ids.length) 0 (-1)) := by
  unfold crierref06_First.f
  exact rfirst_l0 ps ids _ rfl (by omega) _ k 0 (-1) (by omega) (by omega) (by omega) hk

/-- what holds of the first one so far -/
def Inv (ps ids : List Int) (i : Nat) (best : Int) : Prop :=
  (i = 0 ∧ best = -1) ∨ (0 ≤ best ∧ best < i ∧ (∀ t : Nat, t < i → bef (rd ps t) (rd ids t) (rd ps best) (rd ids best) = false) ∧
    ∀ t : Nat, (t : Int) < best → bef (rd ps best) (rd ids best) (rd ps t) (rd ids t) = true)
theorem bef_iff (p a q b : Int) : bef p a q b = true ↔ p < q ∨ p = q ∧ a < b := by unfold bef; simp
theorem bef_not (p a q b : Int) : bef p a q b = false ↔ ¬ (p < q ∨ p = q ∧ a < b) := by rw [← bef_iff]; simp
theorem inv_step (ps ids : List Int) (i : Nat) (best : Int) (h : Inv ps ids i best) : Inv ps ids (i + 1) (pick ps ids i best) := by
  right
  rcases h with ⟨rfl, rfl⟩ | ⟨h0, h1, h2, h3⟩
  · simp only [pick]
    rw [if_pos (by omega)]
    refine ⟨by omega, by omega, fun t ht => ?_, fun t ht => by omega⟩
    obtain rfl : t = 0 := by omega
    rw [bef_not]; omega
  · have hb := pick_bd ps ids i best ⟨by omega, h1⟩
    refine ⟨hb.1, hb.2, ?_⟩
    unfold pick
    rw [if_neg (by omega)]
    by_cases c : bef (rd ps i) (rd ids i) (rd ps best) (rd ids best) = true
    · rw [if_pos c]
      rw [bef_iff] at c
      refine ⟨fun t ht => ?_, fun t ht => ?_⟩
      · by_cases e : t = i
        · subst e; rw [bef_not]; omega
        · have := h2 t (by omega)
          rw [bef_not] at this ⊢
          omega
      · have := h2 t (by omega)
        rw [bef_not] at this
        rw [bef_iff]; omega
    · rw [if_neg c]
      refine ⟨fun t ht => ?_, h3⟩
      by_cases e : t = i
      · subst e; simpa using c
      · exact h2 t (by omega)
theorem inv_all (ps ids : List Int) (d : Nat) : ∀ (i : Nat) (best : Int), Inv ps ids i best → Inv ps ids (i + d) (firstFrom ps ids d i best) := by
  induction d with
  | zero => intro i best h; exact h
  | succ d ih =>
    intro i best h
    have := ih (i + 1) _ (inv_step ps ids i best h)
    rw [show i + 1 + d = i + (d + 1) by omega] at this
    exact this

theorem law_l0 (ps ids : List Int) (n : Nat) (hp : n ≤ ps.length) (hi : n ≤ ids.length) (hn : n ≤ 4611686018427387904) (best : Int) (h0 : 0 ≤ best) (h1 : best < n)
    (h2 : ∀ t : Nat, t < n → bef (rd ps t) (rd ids t) (rd ps best) (rd ids best) = false)
    (h3 : ∀ t : Nat, (t : Int) < best → bef (rd ps best) (rd ids best) (rd ps t) (rd ids t) = true) (d : Nat) : ∀ (k i : Nat), i + d = n → d < k →
    crierlaw06_PrioFirst.l0 k ps ids true best n i = some true := by
  induction d with
  | zero =>
    intro k i hd hk
    obtain ⟨k, rfl⟩ : ∃ m, k = m + 1 := ⟨k - 1, by omega⟩
    rw [crierlaw06_PrioFirst.l0, if_neg (by omega)]
  | succ d ih =>
    intro k i hd hk
    obtain ⟨k, rfl⟩ : ∃ m, k = m + 1 := ⟨k - 1, by omega⟩
    have z := ih k (i + 1) (by omega) (by omega)
    rw [show (((i + 1 : Nat)) : Int) = (i : Int) + 1 by omega] at z
    rw [crierlaw06_PrioFirst.l0, if_pos (by omega), if_pos (by omega), if_pos (by omega), if_pos (by omega), if_pos (by omega), if_pos (by omega), if_pos (by omega), before_is, h2 i (by omega), w64 (i + 1) (by omega), z]
    simp only [Option.bind_some, Bool.false_eq_true, if_false]
    by_cases c : (i : Int) < best
    · have := h3 i c
      rw [bef_iff] at this
      rw [if_pos c]
      by_cases e : rd ps i = rd ps best
      · rw [if_pos e, if_neg (by omega)]
      · rw [if_neg e]
    · rw [if_neg c]
end Go.Proofs.Ytoldcfgedmjmfaa.Pure
