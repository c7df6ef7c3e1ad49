/- The document's ladder: its 64 places, as a row of cells. Generic text (layers 8, 14, 21). -/
import Derived.Test.YtpjenhojldcmiaaH3
import Derived.Laws.Rows
import Derived.Laws.Tables
namespace Go.Proofs.Ytpjenhojldcmiaa
open Go.RowKit Go.Shelf

/-- 64 bools -/
def Lb (f : Nat → Bool) : Array Value := ((List.range 64).map fun i => Value.bool (f i)).toArray
theorem Lb_size (f : Nat → Bool) : (Lb f).size = 64 := by simp [Lb]
theorem Lb_get (f : Nat → Bool) (i : Nat) (h : i < 64) : (Lb f)[i]? = some (.bool (f i)) := by simp [Lb, List.getElem?_range h]
theorem Lb_at {f : Nat → Bool} {i : Nat} {h : i < (Lb f).size} : (Lb f)[i] = .bool (f i) := by
  have := Lb_get f i (by rw [Lb_size] at h; exact h)
  rw [Array.getElem?_eq_some_iff] at this
  exact this.2
theorem Lb_one (f : Nat → Bool) : (Lb f).all (·.oneCell') = true := by
  rw [Array.all_eq_true]
  intro i hi
  rw [Lb_size] at hi
  have h := Lb_get f i hi
  rw [Array.getElem?_eq_some_iff] at h
  obtain ⟨_, h⟩ := h
  rw [h]; rfl
theorem Lb_ext {f g : Nat → Bool} (h : ∀ i, i < 64 → f i = g i) : Lb f = Lb g := by
  unfold Lb
  congr 1
  apply List.map_congr_left
  intro i hi
  rw [h i (by simpa using hi)]
theorem Lb_set (f : Nat → Bool) (i : Nat) (v : Bool) : (Lb f).setIfInBounds i (.bool v) = Lb (fun j => if j = i then v else f j) := by
  apply Array.ext_getElem?
  intro j
  by_cases hj : j < 64
  · rw [Array.getElem?_setIfInBounds, Lb_get _ j hj, Lb_get _ j hj, Lb_size]
    by_cases e : i = j
    · subst e; simp [hj]
    · simp [e, show ¬ j = i from fun h => e h.symm]
  · rw [Array.getElem?_eq_none (by rw [Array.size_setIfInBounds, Lb_size]; omega), Array.getElem?_eq_none (by rw [Lb_size]; omega)]
theorem Lb_false : Lb (fun _ => false) = #[.bool false, .bool false, .bool false, .bool false, .bool false, .bool false, .bool false, .bool false, .bool false, .bool false, .bool false, .bool false, .bool false, .bool false, .bool false, .bool false, .bool false, .bool false, .bool false, .bool false, .bool false, .bool false, .bool false, .bool false, .bool false, .bool false, .bool false, .bool false, .bool false, .bool false, .bool false, .bool false, .bool false, .bool false, .bool false, .bool false, .bool false, .bool false, .bool false, .bool false, .bool false, .bool false, .bool false, .bool false, .bool false, .bool false, .bool false, .bool false, .bool false, .bool false, .bool false, .bool false, .bool false, .bool false, .bool false, .bool false, .bool false, .bool false, .bool false, .bool false, .bool false, .bool false, .bool false, .bool false] := by kernel_rfl

theorem zero_lad : #[.bool false, .bool false, .bool false, .bool false, .bool false, .bool false, .bool false, .bool false, .bool false, .bool false, .bool false, .bool false, .bool false, .bool false, .bool false, .bool false, .bool false, .bool false, .bool false, .bool false, .bool false, .bool false, .bool false, .bool false, .bool false, .bool false, .bool false, .bool false, .bool false, .bool false, .bool false, .bool false, .bool false, .bool false, .bool false, .bool false, .bool false, .bool false, .bool false, .bool false, .bool false, .bool false, .bool false, .bool false, .bool false, .bool false, .bool false, .bool false, .bool false, .bool false, .bool false, .bool false, .bool false, .bool false, .bool false, .bool false, .bool false, .bool false, .bool false, .bool false, .bool false, .bool false, .bool false, .bool false] = Lb (fun _ => false) := Lb_false.symm
/-- the bits of place i, halved step by step -/
theorem half_bit (a : Int) (k : Nat) : (a / 2 ^ k % 2 == 1) = tb a k := by unfold tb; by_cases h : a / 2 ^ k % 2 = 1 <;> simp [h]
theorem half_step (a : Int) (k : Nat) : a / 2 ^ k / 2 = a / 2 ^ (k + 1) := by rw [Int.ediv_ediv_of_nonneg (by have := Int.pow_pos (n := 2) (m := k) (by decide); omega), Int.pow_succ]
theorem half_range (a : Int) (k : Nat) (h0 : 0 ≤ a) (h1 : a ≤ 4294967295) : 0 ≤ a / 2 ^ k ∧ a / 2 ^ k ≤ 4294967295 := by
  have hp : (2 : Int) ^ k > 0 := Int.pow_pos (by decide)
  refine ⟨Int.ediv_nonneg h0 (by omega), Int.le_trans (Int.ediv_le_self _ h0) h1⟩

/-- the rows of cells, whole: read, written -/
theorem boxN_row {W : World} {B : Nat} {t : TypeId} {vs ws : Array Value} (h : BoxN W B t vs) : BoxN (W.setRow B ws) B t ws := setRow_heap W B vs ws t (0, 0) h
theorem boxN_row_other {W : World} {B C : Nat} {t : TypeId} {vs ws : Array Value} (h : BoxN W B t vs) (hne : B ≠ C) : BoxN (W.setRow C ws) B t vs := (setRow_other W C B ws hne).trans h
theorem below_row {n : Nat} {a W : World} (h : Below n a W) {B : Nat} (hB : n ≤ B) (ws : Array Value) : Below n a (W.setRow B ws) :=
  ⟨h.os, h.tape, h.output, by simpa using h.size, fun k hk => (setRow_other W B k ws (by omega)).trans (h.block k hk)⟩
theorem boxN_setCell {W : World} {B : Nat} {t : TypeId} {vs : Array Value} (h : BoxN W B t vs) (i : Nat) (v : Value) : BoxN (W.setCell ⟨B, i, none⟩ v) B t (vs.setIfInBounds i v) := h.set i v
end Go.Proofs.Ytpjenhojldcmiaa
