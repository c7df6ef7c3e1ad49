/- For the rows of laws: a slice opened, with what it may weigh. Own work of this repository. -/
import Derived.Test.YtjkbocejdjnfiaaOpenRows
import Derived.SizedLaws
namespace Go.Proofs.Ytjkbocejdjnfiaa
open Go.ChangeShapes Go.WideShapes Go.ChangeAt Go.RowKit
section
variable {H : Type} {enc : TypeId × Value → H} {P : Program} {w : World} {base : Nat} {spare : Nat → Bool} {held : Bool}
theorem mem_all {e : TypeId} {d : DataW H} {n : Nat} (hn : n ∈ d.weights P e) : ∀ l : List (DataW H), d ∈ l → n ∈ DataW.weightsAll P e l
  | [], h => by cases h
  | x :: r, h => by
    rw [DataW.weightsAll, List.mem_append]
    rcases List.mem_cons.1 h with q | q
    · subst q; exact .inl hn
    · exact .inr (mem_all hn r q)
theorem open_rows_w {α : Type} {t e : TypeId} {sz fuel lim : Nat} {cs : List Value} {x : DataW H × List MemPlace} (R : α → List Value → Prop) (ok : α → Prop)
    (ht : P.underlying t = some (.slice e)) (hs : P.cellsOf e = sz)
    (hel : ∀ (m : Nat) (c : List Value) (y : DataW H × List MemPlace), DataW.trod enc P w base spare held m e c = some y → c.length = sz → (∀ n ∈ y.1.weights P e, n ≤ lim) → ∃ p : α, R p c ∧ ok p)
    (h : DataW.trod enc P w base spare held fuel t cs = some x) (hw : ∀ n ∈ x.1.weights P t, n ≤ lim) :
    ∃ (A : Option Addr) (len cap : Nat) (xs : List α), cs = [.slice A len cap] ∧ len ≤ cap ∧ cap ≤ maxLen ∧ xs.length = len ∧
      (0 < len → ∃ ad, A = some ad ∧ ∀ j p, xs[j]? = some p → ∃ c, c.length = sz ∧ R p c ∧ ∀ i u, c[i]? = some u → w.cell? (ad.add (j * sz + i)) = some u) ∧ (∀ p ∈ xs, ok p) ∧ len * P.bytesOf e ≤ lim := by
  rcases DataW.trod_slice ht h with ⟨h0, -⟩ | ⟨a, len, cap, elems, rest, n, _, rfl, rfl, hb, hl, hm, hlen, hel', -, -⟩
  · exact ⟨none, 0, 0, [], h0, Nat.le_refl _, Nat.zero_le _, rfl, by omega, by simp, by omega⟩
  · have hww : ∀ q ∈ (elems.length + rest.length) * P.bytesOf e :: (DataW.weightsAll P e (elems.map (·.1)) ++ DataW.weightsAll P e (rest.map (·.1))), q ≤ lim := fun q hq => hw q (by simpa [DataW.weights, ht] using hq)
    have hbig : (elems.length + rest.length) * P.bytesOf e ≤ lim := hww _ List.mem_cons_self
    have hb2 : len * P.bytesOf e ≤ lim := Nat.le_trans (Nat.mul_le_mul_right _ (by omega)) hbig
    obtain ⟨xs, hxl, hxq⟩ := list_of (fun j (p : α) => ok p ∧ ∃ c, c.length = sz ∧ R p c ∧ ∀ i u, c[i]? = some u → w.cell? (a.add (j * sz + i)) = some u) len (fun i hi => by
      have hh := hel' i hi
      rw [hs, List.getElem?_eq_getElem (by omega), Option.bind_eq_some_iff] at hh
      obtain ⟨c, hc, hy⟩ := hh
      obtain ⟨-, hcl, hcc⟩ := World.cells?_some hc
      obtain ⟨p, hp, hok⟩ := hel n c _ hy hcl (fun q hq => hww q (by
        refine List.mem_cons_of_mem _ (List.mem_append_left _ (mem_all hq _ ?_))
        exact List.mem_map_of_mem (List.getElem_mem _)))
      refine ⟨p, hok, c, hcl, hp, fun j u hu => ?_⟩
      have := hcc j (by rw [← hcl]; exact (List.getElem?_eq_some_iff.1 hu).1)
      rw [hu] at this
      rw [← this, add_add_])
    refine ⟨some a, len, cap, xs, rfl, hl, hm, hxl, fun _ => ⟨a, rfl, fun j p hp => (hxq j p hp).2⟩, fun p hp => ?_, hb2⟩
    obtain ⟨j, hj⟩ := List.getElem?_of_mem hp
    exact (hxq j p hj).1
end
end Go.Proofs.Ytjkbocejdjnfiaa
