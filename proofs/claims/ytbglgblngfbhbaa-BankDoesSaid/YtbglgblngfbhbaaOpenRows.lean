/- For the rows of laws: a slice of structs (or of arrays) opened: the list of its elements out of its reading. Own work of this repository. -/
import Derived.Test.YtbglgblngfbhbaaRow
import Derived.ChangeArms
import Derived.DataReads
namespace Go.Proofs.Ytbglgblngfbhbaa
open Go.ChangeShapes Go.WideShapes Go.ChangeAt Go.RowKit
section
variable {H : Type} {enc : TypeId × Value → H} {P : Program} {w : World} {base : Nat} {spare : Nat → Bool} {held : Bool}

theorem add_add_ (a : Addr) (i j : Nat) : a.add (i + j) = (a.add i).add j := by
  unfold Addr.add
  by_cases hi : i = 0 <;> by_cases hj : j = 0 <;> simp [hi, hj, Nat.add_assoc]

theorem list_of {α : Type} (Q : Nat → α → Prop) (n : Nat) (h : ∀ i, i < n → ∃ x, Q i x) : ∃ xs : List α, xs.length = n ∧ ∀ i x, xs[i]? = some x → Q i x := by
  induction n with
  | zero => exact ⟨[], rfl, by simp⟩
  | succ n ih =>
    obtain ⟨xs, hl, hq⟩ := ih fun i hi => h i (by omega)
    obtain ⟨x, hx⟩ := h n (by omega)
    refine ⟨xs ++ [x], by simp [hl], fun i y hy => ?_⟩
    rw [List.getElem?_append] at hy
    split at hy
    · exact hq i y hy
    · rename_i hge
      have : i = n := by
        have := (List.getElem?_eq_some_iff.1 hy).1
        simp at this; omega
      subst this
      rw [hl] at hy
      simp at hy
      exact hy ▸ hx

theorem open_rows {α : Type} {t e : TypeId} {sz fuel : Nat} {cs : List Value} {x : DataW H × List MemPlace} (R : α → List Value → Prop) (ok : α → Prop)
    (ht : P.underlying t = some (.slice e)) (hs : P.cellsOf e = sz)
    (hel : ∀ (m : Nat) (c : List Value) (y : DataW H × List MemPlace), DataW.trod enc P w base spare held m e c = some y → c.length = sz → ∃ p : α, R p c ∧ ok p)
    (h : DataW.trod enc P w base spare held fuel t cs = some x) :
    ∃ (A : Option Addr) (len cap : Nat) (xs : List α), cs = [.slice A len cap] ∧ len ≤ cap ∧ cap ≤ maxLen ∧ xs.length = len ∧
      (0 < len → ∃ ad, A = some ad ∧ ∀ j p, xs[j]? = some p → ∃ c, c.length = sz ∧ R p c ∧ ∀ i u, c[i]? = some u → w.cell? (ad.add (j * sz + i)) = some u) ∧ (∀ p ∈ xs, ok p) := by
  rcases DataW.trod_slice ht h with ⟨h0, -⟩ | ⟨a, len, cap, elems, rest, n, _, rfl, rfl, hb, hl, hm, hlen, hel', -, -⟩
  · exact ⟨none, 0, 0, [], h0, Nat.le_refl _, Nat.zero_le _, rfl, by omega, by simp⟩
  · obtain ⟨xs, hxl, hxq⟩ := list_of (fun j (p : α) => ok p ∧ ∃ c, c.length = sz ∧ R p c ∧ ∀ i u, c[i]? = some u → w.cell? (a.add (j * sz + i)) = some u) len (fun i hi => by
      have hh := hel' i hi
      rw [hs, List.getElem?_eq_getElem (by omega), Option.bind_eq_some_iff] at hh
      obtain ⟨c, hc, hy⟩ := hh
      obtain ⟨-, hcl, hcc⟩ := World.cells?_some hc
      obtain ⟨p, hp, hok⟩ := hel n c _ hy hcl
      refine ⟨p, hok, c, hcl, hp, fun j u hu => ?_⟩
      have := hcc j (by rw [← hcl]; exact (List.getElem?_eq_some_iff.1 hu).1)
      rw [hu] at this
      rw [← this, add_add_])
    refine ⟨some a, len, cap, xs, rfl, hl, hm, hxl, fun _ => ⟨a, rfl, fun j p hp => (hxq j p hp).2⟩, fun p hp => ?_⟩
    obtain ⟨j, hj⟩ := List.getElem?_of_mem hp
    exact (hxq j p hj).1

end
end Go.Proofs.Ytbglgblngfbhbaa
