/- The document's New, Free and Place in plain words. -/
import Derived.Test.YtjkbocejdjnfiaaB9
import Derived.Test.YtjkbocejdjnfiaaB11
import Derived.Test.YtjkbocejdjnfiaaIAllx6
import Derived.Test.YtjkbocejdjnfiaaIAllx11
import Derived.Test.YtjkbocejdjnfiaaIAllx12
namespace Go.Proofs.Ytjkbocejdjnfiaa.Bs
open Go.RowKit Go.Shelf Go.Proofs.Ytjkbocejdjnfiaa.IAll Go.Proofs.YtjkbocejdjnfiaaW.PrintWords Go.Proofs.YtjkbocejdjnfiaaW.PrintLast Go.Proofs.YtjkbocejdjnfiaaW.PrintMore
def Ev {α : Type} (f : Nat → Option α) (r : α) : Prop := ∃ k, f k = some r
theorem Ev.step {α : Type} {f g : Nat → Option α} {r : α} (h : Ev g r) (hs : ∀ k, f (k + 1) = g k) : Ev f r := by
  obtain ⟨k, hk⟩ := h
  exact ⟨k + 1, (hs k).trans hk⟩
theorem Ev.now {α : Type} {f : Nat → Option α} {r : α} (hs : f 1 = some r) : Ev f r := ⟨1, hs⟩
theorem rright_is (s : Sp) : crierref05_Right.f s.f0 s.f1 s.f2 s.f3 = some (rightB s) := by
  rw [← right_is]
  unfold crierref05_Right.f bus_right.f
  by_cases h1 : s.f1 ≥ 1
  · by_cases h2 : s.f1 ≤ 1099511627776
    · by_cases h0 : s.f0 ≥ 0
      · have e : wrap64 (1099511627776 - s.f1) = 1099511627776 - s.f1 := IntWalk.wrap64_in _ (by omega)
        rw [if_pos h1, if_pos h2, if_pos h0, if_pos h0, if_pos h1, if_pos h2, e]
        by_cases h3 : s.f0 ≤ 1099511627776
        · have e2 : wrap64 (s.f0 + s.f1) = s.f0 + s.f1 := IntWalk.wrap64_in _ (by omega)
          rw [if_pos h3, e2]
          by_cases h4 : s.f0 + s.f1 ≤ 1099511627776
          · rw [if_pos h4, if_pos (show s.f0 ≤ 1099511627776 - s.f1 by omega)]
          · rw [if_neg h4, if_neg (show ¬ s.f0 ≤ 1099511627776 - s.f1 by omega)]
        · rw [if_neg h3, if_neg (show ¬ s.f0 ≤ 1099511627776 - s.f1 by omega)]
      · rw [if_pos h1, if_pos h2, if_neg h0, if_neg h0]
    · rw [if_pos h1, if_neg h2]
      by_cases h0 : s.f0 ≥ 0
      · rw [if_pos h0, if_pos h1, if_neg h2]
      · rw [if_neg h0]
  · rw [if_neg h1]
    by_cases h0 : s.f0 ≥ 0
    · rw [if_pos h0, if_neg h1]
    · rw [if_neg h0]
theorem w64n {k : Nat} (h : k ≤ 4398046511104) : wrap64 ((k : Int) + 1) = ((k + 1 : Nat) : Int) := IntWalk.wrap64_in _ (by omega)
theorem rd_lt {d : List Sp} {k : Nat} (h : k < d.length) : d.drop k = rd_T33 d k :: d.drop (k + 1) := by
  rw [List.drop_eq_getElem_cons h, rd_T33, Int.toNat_natCast, List.getD_eq_getElem?_getD, List.getElem?_eq_getElem h]; rfl
/-- a span is put among sorted ones -/
def insR (x : Sp) : List Sp → List Sp
  | [] => [x]
  | y :: r => if x.f0 < y.f0 then x :: y :: r else y :: insR x r
theorem insR_len (x : Sp) : ∀ l : List Sp, (insR x l).length = l.length + 1
  | [] => rfl
  | y :: r => by
    unfold insR
    split
    · rfl
    · rw [List.length_cons, insR_len x r, List.length_cons]
theorem insR_perm (x : Sp) : ∀ l : List Sp, (insR x l).Perm (x :: l)
  | [] => List.Perm.refl _
  | y :: r => by
    unfold insR
    split
    · exact List.Perm.refl _
    · exact ((insR_perm x r).cons y).trans (List.Perm.swap x y r)
def insAll (o : List Sp) (l : List Sp) : List Sp := l.foldl (fun o x => insR x o) o
theorem insAll_perm : ∀ (l o : List Sp), (insAll o l).Perm (l ++ o)
  | [], _ => List.Perm.refl _
  | x :: l, o => (insAll_perm l (insR x o)).trans (((insR_perm x o).append_left l).trans (List.perm_middle))
/-- sorted, as a chain of pairs -/
def SrtP (l : List Sp) : Prop := l.Pairwise (fun a b => a.f0 ≤ b.f0)
theorem insR_srt (x : Sp) : ∀ l : List Sp, SrtP l → SrtP (insR x l)
  | [], _ => List.pairwise_singleton _ _
  | y :: r, h => by
    obtain ⟨h1, h2⟩ := List.pairwise_cons.1 h
    unfold insR
    split
    · rename_i hl
      refine List.pairwise_cons.2 ⟨fun z hz => ?_, h⟩
      rcases List.mem_cons.1 hz with rfl | hz
      · exact Int.le_of_lt hl
      · have := h1 z hz; omega
    · rename_i hl
      refine List.pairwise_cons.2 ⟨fun z hz => ?_, insR_srt x r h2⟩
      rcases List.mem_cons.1 ((insR_perm x r).mem_iff.1 hz) with rfl | hz
      · omega
      · exact h1 z hz
theorem insAll_srt : ∀ (l o : List Sp), SrtP o → SrtP (insAll o l)
  | [], _, h => h
  | x :: l, o, h => insAll_srt l _ (insR_srt x o h)
theorem rd_get {l : List Sp} {i : Nat} (h : i < l.length) : rd_T33 l i = l[i] := by
  rw [rd_T33, Int.toNat_natCast, List.getD_eq_getElem?_getD, List.getElem?_eq_getElem h]; rfl
theorem srt_iff {l : List Sp} : SrtP l ↔ Srt l := by
  unfold SrtP
  rw [List.pairwise_iff_getElem]
  constructor
  · intro h i j hij hj
    rw [rd_get hj, rd_get (by omega)]
    exact h i j (by omega) hj hij
  · intro h i j hi hj hij
    have := h i j hij hj
    rwa [rd_get hj, rd_get hi] at this
/-- two spans share no address -/
def Ap2 (a b : Sp) : Prop := a.f0 + a.f1 ≤ b.f0 ∨ b.f0 + b.f1 ≤ a.f0
theorem Ap2.symm {a b : Sp} (h : Ap2 a b) : Ap2 b a := Or.symm h
theorem noovl_iff {l : List Sp} (hs : Srt l) (hD : ∀ s ∈ l, Rgt s) : NoOvl l ↔ l.Pairwise Ap2 := by
  rw [List.pairwise_iff_getElem]
  constructor
  · intro h i j hi hj hij
    have := apart hs h hij hj
    rw [rd_get hj, rd_get hi] at this
    exact .inl this
  · intro h k hk
    have h1 := h k (k + 1) (by omega) hk (by omega)
    have h2 := hs k (k + 1) (by omega) hk
    have h3 := hD _ (rd_mem hk)
    have h4 := hD _ (rd_mem (d := l) (k := k) (by omega))
    rw [← rd_get hk, ← rd_get (i := k) (by omega)] at h1
    obtain ⟨-, a1, -⟩ := h3
    obtain ⟨-, b1, -⟩ := h4
    rcases h1 with h1 | h1
    · exact h1
    · omega
theorem eq_sorted : ∀ (a b : List Sp), a.Perm b → a.Pairwise (fun s t => s.f0 < t.f0) → b.Pairwise (fun s t => s.f0 < t.f0) → a = b
  | [], b, hp, _, _ => (List.nil_perm.1 hp).symm
  | x :: a, [], hp, _, _ => absurd (List.perm_nil.1 hp) (by simp)
  | x :: a, y :: b, hp, ha, hb => by
    obtain ⟨a1, a2⟩ := List.pairwise_cons.1 ha
    obtain ⟨b1, b2⟩ := List.pairwise_cons.1 hb
    have hxy : x = y := by
      rcases List.mem_cons.1 (hp.mem_iff.1 (List.mem_cons_self ..)) with h | h
      · exact h
      · rcases List.mem_cons.1 (hp.mem_iff.2 (List.mem_cons_self ..)) with h' | h'
        · exact h'.symm
        · have := b1 x h; have := a1 y h'; omega
    subst hxy
    rw [eq_sorted a b (List.perm_cons _ |>.1 hp) a2 b2]
theorem strict {l : List Sp} (hs : Srt l) (hn : NoOvl l) (hD : ∀ s ∈ l, Rgt s) : l.Pairwise (fun s t => s.f0 < t.f0) := by
  rw [List.pairwise_iff_getElem]
  intro i j hi hj hij
  have := apart hs hn hij hj
  obtain ⟨-, h, -⟩ := hD _ (rd_mem hi)
  rw [rd_get hi] at h
  rw [rd_get hj, rd_get hi] at this
  omega
/-- there is one bus at most, in whatever order the spans come -/
theorem one_bus {d a b : List Sp} (hD : ∀ s ∈ d, Rgt s) (ha : a.Perm d) (hb : b.Perm d) (sa : Srt a) (sb : Srt b) : (NoOvl a ↔ NoOvl b) ∧ (NoOvl a → a = b) := by
  have da : ∀ s ∈ a, Rgt s := fun s h => hD s (ha.mem_iff.1 h)
  have db : ∀ s ∈ b, Rgt s := fun s h => hD s (hb.mem_iff.1 h)
  have hi : NoOvl a ↔ NoOvl b := by
    rw [noovl_iff sa da, noovl_iff sb db]
    exact List.Perm.pairwise_iff (fun h => Ap2.symm h) (ha.trans hb.symm)
  exact ⟨hi, fun h => eq_sorted a b (ha.trans hb.symm) (strict sa h da) (strict sb (hi.1 h) db)⟩
section New
variable {d : List Sp} {r : List Sp × Int}
theorem new_l4 {o : List Sp} (ho : o.length ≤ 32) (hD : ∀ s ∈ o, Rgt s) {i : Nat} (hi : i < o.length) : ∀ (m j : Nat), i = j + m →
    (Ev (fun k => crierref05_New.l4 k o i j) ([], 50) ∧ ¬ o.Pairwise Ap2) ∨ ((∀ k', j ≤ k' → k' < i → Ap2 (rd_T33 o k') (rd_T33 o i)) ∧ ∀ r, Ev (fun k => crierref05_New.l3 k o ((i + 1 : Nat) : Int)) r → Ev (fun k => crierref05_New.l4 k o i j) r)
  | 0, j, e => by
    refine .inr ⟨fun k' h1 h2 => by omega, fun r h => h.step fun k => ?_⟩
    rw [crierref05_New.l4, if_neg (by omega), w64n (by omega)]
  | m + 1, j, e => by
    obtain ⟨i0, i1, i2⟩ := hD _ (rd_mem hi)
    obtain ⟨j0, j1, j2⟩ := hD _ (rd_mem (d := o) (k := j) (by omega))
    unfold TOP at i2 j2
    have e1 : wrap64 ((rd_T33 o j).f0 + (rd_T33 o j).f1) = (rd_T33 o j).f0 + (rd_T33 o j).f1 := IntWalk.wrap64_in _ (by omega)
    have e2 : wrap64 ((rd_T33 o i).f0 + (rd_T33 o i).f1) = (rd_T33 o i).f0 + (rd_T33 o i).f1 := IntWalk.wrap64_in _ (by omega)
    have hs : ∀ k, crierref05_New.l4 (k + 1) o i j = if (rd_T33 o i).f0 < (rd_T33 o j).f0 + (rd_T33 o j).f1 then (if (rd_T33 o j).f0 < (rd_T33 o i).f0 + (rd_T33 o i).f1 then some ([], 50) else crierref05_New.l4 k o i ((j + 1 : Nat) : Int)) else crierref05_New.l4 k o i ((j + 1 : Nat) : Int) := by
      intro k
      rw [crierref05_New.l4, if_pos (by omega), if_pos (by omega), if_pos (by omega), if_pos (by omega), if_pos (by omega), e1, e2, w64n (by omega)]
    by_cases hc : (rd_T33 o i).f0 < (rd_T33 o j).f0 + (rd_T33 o j).f1 ∧ (rd_T33 o j).f0 < (rd_T33 o i).f0 + (rd_T33 o i).f1
    · refine .inl ⟨Ev.now (by rw [hs, if_pos hc.1, if_pos hc.2]), fun hp => ?_⟩
      have := List.pairwise_iff_getElem.1 hp j i (by omega) hi (by omega)
      rw [← rd_get hi, ← rd_get (i := j) (by omega)] at this
      rcases this with h | h
      · obtain ⟨h1, -⟩ := hc; omega
      · obtain ⟨-, h1⟩ := hc; omega
    · have hs2 : ∀ k, crierref05_New.l4 (k + 1) o i j = crierref05_New.l4 k o i ((j + 1 : Nat) : Int) := by
        intro k
        rw [hs]
        split
        · split
          · rename_i a b; exact absurd ⟨a, b⟩ hc
          · rfl
        · rfl
      rcases new_l4 ho hD hi m (j + 1) (by omega) with ⟨h1, h2⟩ | ⟨h1, h2⟩
      · exact .inl ⟨h1.step hs2, h2⟩
      · refine .inr ⟨fun k' a b => ?_, fun r h => (h2 r h).step hs2⟩
        rcases Nat.lt_or_ge j k' with c | c
        · exact h1 k' c b
        · obtain rfl : k' = j := by omega
          unfold Ap2
          omega
theorem new_l3 {o : List Sp} (ho : o.length ≤ 32) (hD : ∀ s ∈ o, Rgt s) : ∀ (m i : Nat), o.length = i + m → (∀ a b : Nat, a < b → b < i → Ap2 (rd_T33 o a) (rd_T33 o b)) →
    (Ev (fun k => crierref05_New.l3 k o i) ([], 50) ∧ ¬ o.Pairwise Ap2) ∨ (Ev (fun k => crierref05_New.l3 k o i) (o, 0) ∧ o.Pairwise Ap2)
  | 0, i, e, hp => by
    refine .inr ⟨Ev.now (by rw [crierref05_New.l3, if_neg (by omega)]), List.pairwise_iff_getElem.2 fun a b ha hb hab => ?_⟩
    rw [← rd_get ha, ← rd_get hb]
    exact hp a b hab (by omega)
  | m + 1, i, e, hp => by
    have hs : ∀ k, crierref05_New.l3 (k + 1) o i = crierref05_New.l4 k o i ((0 : Nat) : Int) := by
      intro k
      rw [crierref05_New.l3, if_pos (by omega)]; rfl
    rcases new_l4 ho hD (i := i) (by omega) i 0 (by omega) with ⟨h1, h2⟩ | ⟨h1, h2⟩
    · exact .inl ⟨h1.step hs, h2⟩
    · have hp' : ∀ a b : Nat, a < b → b < i + 1 → Ap2 (rd_T33 o a) (rd_T33 o b) := by
        intro a b h3 h4
        rcases Nat.lt_or_ge b i with c | c
        · exact hp a b h3 c
        · obtain rfl : b = i := by omega
          exact h1 a (by omega) h3
      rcases new_l3 ho hD m (i + 1) (by omega) hp' with ⟨a, b⟩ | ⟨a, b⟩
      · exact .inl ⟨(h2 _ a).step hs, b⟩
      · exact .inr ⟨(h2 _ a).step hs, b⟩
theorem new_l2t {o : List Sp} (ho : o.length ≤ 32) {i : Nat} : ∀ (m j : Nat) (nx : List Sp), o.length = j + m → nx.length ≤ 64 → nx.length = j + 1 → i ≤ 32 → Ev (fun k => crierref05_New.l1 k d (nx ++ o.drop j) ((i + 1 : Nat) : Int)) r → Ev (fun k => crierref05_New.l2 k d o i nx true j) r
  | 0, j, nx, e, hn, _, hi, h => by
    refine h.step fun k => ?_
    rw [crierref05_New.l2, if_neg (by omega), if_pos rfl, w64n (by omega), List.drop_eq_nil_of_le (by omega), List.append_nil]
  | m + 1, j, nx, e, hn, hl, hi, h => by
    refine (new_l2t ho m (j + 1) (nx ++ [rd_T33 o j]) (by omega) (by simp; omega) (by simp; omega) hi ?_).step fun k => ?_
    · rw [List.append_assoc, List.singleton_append, ← rd_lt (by omega)]
      exact h
    · rw [crierref05_New.l2, if_pos (by omega), if_pos rfl, if_pos (by omega), if_pos (by omega), w64n (by omega)]
theorem new_l2f {o : List Sp} (ho : o.length ≤ 32) (hd : d.length ≤ 32) {i : Nat} (hi : i < d.length) : ∀ (m j : Nat) (nx : List Sp), o.length = j + m → nx.length = j → Ev (fun k => crierref05_New.l1 k d (nx ++ insR (rd_T33 d i) (o.drop j)) ((i + 1 : Nat) : Int)) r → Ev (fun k => crierref05_New.l2 k d o i nx false j) r
  | 0, j, nx, e, hn, h => by
    refine h.step fun k => ?_
    rw [crierref05_New.l2, if_neg (by omega), if_neg (by decide), if_pos (by omega), if_pos (by omega), if_pos (by omega), w64n (by omega), List.drop_eq_nil_of_le (by omega)]
    rfl
  | m + 1, j, nx, e, hn, h => by
    rw [rd_lt (d := o) (k := j) (by omega)] at h
    unfold insR at h
    by_cases hc : (rd_T33 d i).f0 < (rd_T33 o j).f0
    · rw [if_pos hc] at h
      refine (new_l2t (d := d) (r := r) (i := i) ho m (j + 1) (nx ++ [rd_T33 d i] ++ [rd_T33 o j]) (by omega) (by simp; omega) (by simp; omega) (by omega) ?_).step fun k => ?_
      · rw [List.append_assoc, List.append_assoc, List.singleton_append, List.singleton_append]
        exact h
      · rw [crierref05_New.l2, if_pos (by omega), if_neg (by decide), if_pos (by omega), if_pos (by omega), if_pos (by omega), if_pos hc, if_pos (by omega), Option.bind_some, if_pos (by simp; omega), w64n (by omega)]
    · rw [if_neg hc] at h
      refine (new_l2f ho hd hi m (j + 1) (nx ++ [rd_T33 o j]) (by omega) (by simp; omega) ?_).step fun k => ?_
      · rw [List.append_assoc, List.singleton_append]
        exact h
      · rw [crierref05_New.l2, if_pos (by omega), if_neg (by decide), if_pos (by omega), if_pos (by omega), if_pos (by omega), if_neg hc, if_pos (by omega), w64n (by omega)]
theorem new_l1 (hd : d.length ≤ 32) : ∀ (m i : Nat) (o : List Sp), d.length = i + m → o.length = i → Ev (fun k => crierref05_New.l3 k (insAll o (d.drop i)) 0) r → Ev (fun k => crierref05_New.l1 k d o i) r
  | 0, i, o, e, ho, h => by
    refine h.step fun k => ?_
    rw [crierref05_New.l1, if_neg (by omega), List.drop_eq_nil_of_le (by omega)]
    rfl
  | m + 1, i, o, e, ho, h => by
    refine (new_l2f (d := d) (r := r) (o := o) (by omega) hd (i := i) (by omega) o.length 0 [] (by omega) rfl ?_).step fun k => ?_
    · refine new_l1 hd m (i + 1) _ (by omega) (by rw [List.nil_append, insR_len]; simp; omega) ?_
      rw [rd_lt (d := d) (k := i) (by omega)] at h
      exact h
    · rw [crierref05_New.l1, if_pos (by omega)]; rfl
theorem new_l0 (hd : d.length ≤ 32) : ∀ (m i : Nat), d.length = i + m → (∀ y ∈ d.drop i, rightB y = true) → Ev (fun k => crierref05_New.l1 k d [] 0) r → Ev (fun k => crierref05_New.l0 k d i) r
  | 0, i, e, _, h => by
    refine h.step fun k => ?_
    rw [crierref05_New.l0, if_neg (by omega)]
  | m + 1, i, e, hR, h => by
    rw [rd_lt (d := d) (k := i) (by omega)] at hR
    refine (new_l0 hd m (i + 1) (by omega) (fun y hy => hR y (List.mem_cons_of_mem _ hy)) h).step fun k => ?_
    rw [crierref05_New.l0, if_pos (by omega), if_pos (by omega), rright_is, Option.bind_some, hR _ (List.mem_cons_self ..), if_pos rfl, w64n (by omega)]
theorem new_l0b (hd : d.length ≤ 32) : ∀ (m i : Nat), d.length = i + m → (∃ y ∈ d.drop i, rightB y = false) → Ev (fun k => crierref05_New.l0 k d i) ([], 1)
  | 0, i, e, h => by
    rw [List.drop_eq_nil_of_le (by omega)] at h
    obtain ⟨y, hy, -⟩ := h
    cases hy
  | m + 1, i, e, h => by
    rw [rd_lt (d := d) (k := i) (by omega)] at h
    cases hb : rightB (rd_T33 d i) with
    | false => exact Ev.now (by rw [crierref05_New.l0, if_pos (by omega), if_pos (by omega), rright_is, Option.bind_some, hb, if_neg (by decide)])
    | true =>
      obtain ⟨y, hy, h2⟩ := h
      have hy' : y ∈ d.drop (i + 1) := by
        rcases List.mem_cons.1 hy with rfl | hy
        · rw [hb] at h2; cases h2
        · exact hy
      refine (new_l0b hd m (i + 1) (by omega) ⟨y, hy', h2⟩).step fun k => ?_
      rw [crierref05_New.l0, if_pos (by omega), if_pos (by omega), rright_is, Option.bind_some, hb, if_pos rfl, w64n (by omega)]
end New
/-- the document's New -/
theorem refNew (d : List Sp) : (newBad d ∧ Ev (fun k => crierref05_New.f k d) ([], 1)) ∨
    (¬ newBad d ∧ ∃ d' : List Sp, d'.Perm d ∧ Srt d' ∧ ((¬ NoOvl d' ∧ Ev (fun k => crierref05_New.f k d) ([], 50)) ∨ (NoOvl d' ∧ Ev (fun k => crierref05_New.f k d) (d', 0)))) := by
  by_cases h32 : 32 < d.length
  · exact .inl ⟨.inl h32, ⟨0, by show crierref05_New.f 0 d = _; rw [crierref05_New.f, if_pos (by omega)]⟩⟩
  · have hf : ∀ k, crierref05_New.f k d = crierref05_New.l0 k d ((0 : Nat) : Int) := fun k => by rw [crierref05_New.f, if_neg (by omega)]; rfl
    have hfe : (fun k => crierref05_New.f k d) = fun k => crierref05_New.l0 k d ((0 : Nat) : Int) := funext hf
    rw [hfe]
    by_cases hb : ∃ s ∈ d, rightB s = false
    · exact .inl ⟨.inr hb, new_l0b (by omega) d.length 0 (by omega) (by simpa using hb)⟩
    · have hR : ∀ y ∈ d, rightB y = true := fun y hy => by
        cases h : rightB y with
        | true => rfl
        | false => exact absurd ⟨y, hy, h⟩ hb
      have hnb : ¬ newBad d := by
        rintro (h | h)
        · exact h32 h
        · exact hb h
      have hp : (insAll [] d).Perm d := by simpa using insAll_perm d []
      have hs : Srt (insAll [] d) := srt_iff.1 (insAll_srt d [] List.Pairwise.nil)
      have hD : ∀ s ∈ insAll [] d, Rgt s := fun s h => (right_rgt (hR s (hp.mem_iff.1 h))).1
      have hl : (insAll [] d).length ≤ 32 := by rw [hp.length_eq]; omega
      refine .inr ⟨hnb, _, hp, hs, ?_⟩
      rw [noovl_iff hs hD]
      rcases new_l3 hl hD (insAll [] d).length 0 (by omega) (fun a b _ h => by omega) with ⟨a, b⟩ | ⟨a, b⟩
      · exact .inl ⟨b, new_l0 (by omega) d.length 0 (by omega) (by simpa using hR) (new_l1 (by omega) d.length 0 [] (by omega) rfl a)⟩
      · exact .inr ⟨b, new_l0 (by omega) d.length 0 (by omega) (by simpa using hR) (new_l1 (by omega) d.length 0 [] (by omega) rfl a)⟩
theorem free_j2 {d : List Sp} {e x6 x8 : Int} {x5 : List Int} {x7 : Nat} {r : List Int} (hl : x5.length ≤ 128) (hx7 : x7 < d.length) (hd : d.length ≤ 64) (h0 : 0 ≤ x6) (h8 : x8 ≤ 9223372036854775807) (hR : Rgt (rd_T33 d x7))
    (h : Ev (fun k => crierref05_Free.l0 k d e (x5 ++ (if x6 < x8 then [x6, x8 - x6] else [])) ((rd_T33 d x7).f0 + (rd_T33 d x7).f1) ((x7 + 1 : Nat) : Int)) r) : Ev (fun k => crierref05_Free.j2 k d e x5 x6 x7 x8) r := by
  obtain ⟨r0, r1, r2⟩ := hR
  unfold TOP at r2
  have e1 : wrap64 ((rd_T33 d x7).f0 + (rd_T33 d x7).f1) = (rd_T33 d x7).f0 + (rd_T33 d x7).f1 := IntWalk.wrap64_in _ (by omega)
  refine h.step fun k => ?_
  rw [crierref05_Free.j2]
  by_cases hc : x6 < x8
  · have e2 : wrap64 (x8 - x6) = x8 - x6 := IntWalk.wrap64_in _ (by omega)
    rw [if_pos (show x8 > x6 from hc), if_pos hc, Option.bind_some, if_pos (by simp; omega), Option.bind_some, if_pos (by omega), if_pos (by omega), e1, e2, w64n (by omega)]
  · rw [if_neg (show ¬ x8 > x6 from hc), if_neg hc, if_pos (by omega), if_pos (by omega), e1, w64n (by omega), List.append_nil]
theorem free_l0 {d : List Sp} (hd : d.length ≤ 64) (hD : ∀ s ∈ d, Rgt s) {e : Int} (he : e ≤ 9223372036854775807) : ∀ (m i : Nat), d.length = i + m → Ev (fun k => crierref05_Free.l0 k d e (flI (frp e (d.take i)).1) (frp e (d.take i)).2 i) (flI (fr e d))
  | 0, i, hm => by
    have hi : d.take i = d := List.take_of_length_le (by omega)
    rw [hi]
    obtain ⟨h0, -⟩ := frp_at (e := e) hD
    have hlen : (flI (frp e d).1).length ≤ 2 * (d.length + 1) := by
      have := fr_len e d
      rw [flI_len]
      rw [fr, List.length_append] at this
      omega
    have hfin : Ev (fun k => crierref05_Free.l0 k d e (flI (fr e d)) (frp e d).2 ((i + 1 : Nat) : Int)) (flI (fr e d)) := Ev.now (by rw [crierref05_Free.l0, if_neg (by omega)])
    have hj2 : Ev (fun k => crierref05_Free.j2 k d e (flI (frp e d).1) (frp e d).2 i e) (flI (fr e d)) := by
      refine hfin.step fun k => ?_
      rw [crierref05_Free.j2, fr]
      by_cases hc : (frp e d).2 < e
      · have e2 : wrap64 (e - (frp e d).2) = e - (frp e d).2 := IntWalk.wrap64_in _ (by omega)
        rw [if_pos (show e > (frp e d).2 from hc), if_pos hc, Option.bind_some, if_pos (by simp; omega), Option.bind_some, if_neg (by omega), e2, w64n (by omega), flI_snoc]
      · rw [if_neg (show ¬ e > (frp e d).2 from hc), if_neg hc, if_neg (by omega), w64n (by omega), List.append_nil]
    refine (hj2.step (f := fun k => crierref05_Free.j1 k d e (flI (frp e d).1) (frp e d).2 i e false) fun k => ?_).step fun k => ?_
    · show crierref05_Free.j1 (k + 1) d e _ _ _ _ _ = _
      rw [crierref05_Free.j1, if_neg (by decide)]
    · show crierref05_Free.l0 (k + 1) d e _ _ _ = _
      rw [crierref05_Free.l0, if_pos (by omega), if_neg (by omega)]
  | m + 1, i, hm => by
    have hnx := take_next (d := d) (k := i) (by omega)
    have hDp : ∀ s ∈ d.take i, Rgt s := fun s h => hD s (List.mem_of_mem_take h)
    obtain ⟨h0, -⟩ := frp_at (e := e) hDp
    have hR := hD _ (rd_mem (d := d) (k := i) (by omega))
    have ih := free_l0 hd hD he m (i + 1) (by omega)
    rw [hnx, frp_snoc, stp] at ih
    have hlen : (flI (frp e (d.take i)).1).length ≤ 128 := by
      have := fr_len e (d.take i)
      rw [flI_len]
      rw [fr, List.length_append, List.length_take] at this
      omega
    obtain ⟨r0, r1, r2⟩ := id hR
    unfold TOP at r2
    have key : ∀ x8 : Int, x8 = min e (rd_T33 d i).f0 → Ev (fun k => crierref05_Free.j2 k d e (flI (frp e (d.take i)).1) (frp e (d.take i)).2 i x8) (flI (fr e d)) := by
      rintro x8 rfl
      refine free_j2 hlen (by omega) hd h0 (by omega) hR ?_
      by_cases hc : (frp e (d.take i)).2 < (rd_T33 d i).f0 ∧ (frp e (d.take i)).2 < e
      · rw [if_pos hc, flI_snoc] at ih
        rw [if_pos (by omega)]
        exact ih
      · rw [if_neg hc] at ih
        rw [if_neg (by omega)]
        rw [List.append_nil] at ih ⊢
        exact ih
    by_cases hb : (rd_T33 d i).f0 < e
    · refine ((key (rd_T33 d i).f0 (by omega)).step (f := fun k => crierref05_Free.j1 k d e (flI (frp e (d.take i)).1) (frp e (d.take i)).2 i e true) fun k => ?_).step fun k => ?_
      · show crierref05_Free.j1 (k + 1) d e _ _ _ _ _ = _
        rw [crierref05_Free.j1, if_pos rfl, if_pos (by omega), if_pos (by omega)]
      · show crierref05_Free.l0 (k + 1) d e _ _ _ = _
        rw [crierref05_Free.l0, if_pos (by omega), if_pos (by omega), if_pos (by omega), decide_eq_true hb]
    · refine ((key e (by omega)).step (f := fun k => crierref05_Free.j1 k d e (flI (frp e (d.take i)).1) (frp e (d.take i)).2 i e false) fun k => ?_).step fun k => ?_
      · show crierref05_Free.j1 (k + 1) d e _ _ _ _ _ = _
        rw [crierref05_Free.j1, if_neg (by decide)]
      · show crierref05_Free.l0 (k + 1) d e _ _ _ = _
        rw [crierref05_Free.l0, if_pos (by omega), if_pos (by omega), if_pos (by omega), decide_eq_false hb]
/-- the document's Free -/
theorem refFree {d : List Sp} (hd : d.length ≤ 64) (hD : ∀ s ∈ d, Rgt s) {e : Int} (he : e ≤ 9223372036854775807) : Ev (fun k => crierref05_Free.f k d e) (flI (fr e d)) :=
  free_l0 hd hD he d.length 0 (by omega)
theorem rd_flI {L : List (Int × Int)} {j : Nat} (h : j < L.length) : rd (flI L) ((2 * j : Nat) : Int) = (pq L j).1 ∧ rd (flI L) ((2 * j + 1 : Nat) : Int) = (pq L j).2 := by
  obtain ⟨h1, h2⟩ := flI_at L j h
  unfold rd
  rw [Int.toNat_natCast, Int.toNat_natCast, List.getD_eq_getElem?_getD, List.getD_eq_getElem?_getD, h1, h2]
  exact ⟨rfl, rfl⟩
theorem plcAt_is {a s : Int} (h1 : 1 ≤ s) : plcAt a s = if a % s = 0 then a else a + s - a % s := by
  have hs : s ≠ 0 := by omega
  have e1 : s * (a / s) + a % s = a := Int.mul_ediv_add_emod a s
  have e2 : 0 ≤ a % s := Int.emod_nonneg a hs
  have e3 : a % s < s := Int.emod_lt_of_pos a (by omega)
  unfold plcAt
  have e4 : a + s - 1 = (a % s + s - 1) + s * (a / s) := by omega
  rw [e4, Int.add_mul_ediv_left _ _ hs]
  split
  · rename_i hz
    have : (a % s + s - 1) / s = 0 := by rw [hz]; exact Int.ediv_eq_zero_of_lt (by omega) (by omega)
    rw [this, Int.zero_add, Int.mul_comm]
    omega
  · rename_i hz
    have : (a % s + s - 1) / s = 1 := by
      rw [show a % s + s - 1 = (a % s - 1) + s * 1 by omega, Int.add_mul_ediv_left _ _ hs, Int.ediv_eq_zero_of_lt (by omega) (by omega)]
      rfl
    rw [this, Int.add_mul, Int.one_mul, Int.mul_comm]
    omega
theorem place_l0 {L : List (Int × Int)} {sz st e : Int} (hs : 1 ≤ sz ∧ sz ≤ TOP) (ht : 1 ≤ st ∧ st ≤ TOP) (he : e ≤ TOP) (hL : L.length ≤ 128) (hb : ∀ p ∈ L, 0 ≤ p.1 ∧ 1 ≤ p.2 ∧ p.1 + p.2 ≤ e) : ∀ (m i : Nat), L.length = i + m →
    Ev (fun k => crierref05_Place.l0 k sz st (flI L) ((2 * i : Nat) : Int)) (match (L.drop i).find? (hitP sz st) with | some p => (plcAt p.1 st, 0) | none => (0, 2))
  | 0, i, hm => by
    have hl := flI_len L
    rw [List.drop_eq_nil_of_le (by omega)]
    exact Ev.now (by rw [crierref05_Place.l0, if_neg (by omega)]; rfl)
  | m + 1, i, hm => by
    have hl := flI_len L
    have hi : i < L.length := by omega
    obtain ⟨f1, f2⟩ := rd_flI hi
    obtain ⟨b0, b1, b2⟩ := hb _ (pq_mem hi)
    have hdr : L.drop i = pq L i :: L.drop (i + 1) := by
      rw [List.drop_eq_getElem_cons hi, pq, List.getD_eq_getElem?_getD, List.getElem?_eq_getElem hi]; rfl
    have hP := plcAt_is (a := (pq L i).1) ht.1
    have hPb := plcAt_bd b0 ht.1
    unfold TOP at hs ht he
    have w1 : wrap64 (((2 * i : Nat) : Int) + 1) = ((2 * i + 1 : Nat) : Int) := w64n (by omega)
    have w2 : wrap64 (((2 * i : Nat) : Int) + 2) = ((2 * (i + 1) : Nat) : Int) := IntWalk.wrap64_in _ (by omega)
    have w3 : wrap64 ((pq L i).1 + (pq L i).2) = (pq L i).1 + (pq L i).2 := IntWalk.wrap64_in _ (by omega)
    have w4 : wrap64 ((pq L i).1 + sz) = (pq L i).1 + sz := IntWalk.wrap64_in _ (by omega)
    have e2 : 0 ≤ (pq L i).1 % st := Int.emod_nonneg _ (by omega)
    have e3 : (pq L i).1 % st < st := Int.emod_lt_of_pos _ (by omega)
    have w5 : wrap64 ((pq L i).1 + st) = (pq L i).1 + st := IntWalk.wrap64_in _ (by omega)
    have w6 : wrap64 ((pq L i).1 + st - (pq L i).1 % st) = (pq L i).1 + st - (pq L i).1 % st := IntWalk.wrap64_in _ (by omega)
    have w7 : wrap64 ((pq L i).1 + st - (pq L i).1 % st + sz) = (pq L i).1 + st - (pq L i).1 % st + sz := IntWalk.wrap64_in _ (by omega)
    have hs1 : ∀ k, crierref05_Place.l0 (k + 1) sz st (flI L) ((2 * i : Nat) : Int) = if plcAt (pq L i).1 st + sz ≤ (pq L i).1 + (pq L i).2 then some (plcAt (pq L i).1 st, 0) else crierref05_Place.l0 k sz st (flI L) ((2 * (i + 1) : Nat) : Int) := by
      intro k
      rw [crierref05_Place.l0, if_pos (by omega), if_pos (by omega), if_neg (by omega), w1, w2, f1, f2, Int.tmod_eq_emod_of_nonneg b0, w3, w4, w5, w6, w7]
      by_cases hz : (pq L i).1 % st = 0
      · rw [if_pos hz] at hP
        rw [if_pos hz, if_pos (by omega), if_pos (by omega), hP]
      · rw [if_neg hz] at hP
        rw [if_neg hz, if_pos (by omega), if_pos (by omega), hP]
    have ih := place_l0 ⟨by omega, by unfold TOP; omega⟩ ⟨by omega, by unfold TOP; omega⟩ (by unfold TOP; omega) hL hb m (i + 1) (by omega) (sz := sz) (st := st) (e := e)
    rw [hdr]
    by_cases hh : plcAt (pq L i).1 st + sz ≤ (pq L i).1 + (pq L i).2
    · have q : hitP sz st (pq L i) = true := by unfold hitP; exact decide_eq_true (by omega)
      rw [List.find?_cons_of_pos q]
      exact Ev.now (by rw [hs1, if_pos hh])
    · have q : ¬ hitP sz st (pq L i) = true := by unfold hitP; simp; omega
      rw [List.find?_cons_of_neg q]
      exact ih.step fun k => by rw [hs1, if_neg hh]
/-- the document's Place -/
theorem refPlace {d : List Sp} (hd : d.length ≤ 64) (hD : ∀ s ∈ d, Rgt s) (sz st e : Int) : Ev (fun k => crierref05_Place.f k d sz st e) (plc d sz st e) := by
  have hj : ∀ b, b = decide (argBad sz st e) → Ev (fun k => crierref05_Place.j0 k d sz st e b) (plc d sz st e) := by
    rintro b rfl
    by_cases hb : argBad sz st e
    · exact Ev.now (by rw [crierref05_Place.j0, decide_eq_true hb, if_pos rfl, plc, if_pos hb])
    · rw [decide_eq_false hb]
      have hb' := hb
      unfold argBad at hb'
      obtain ⟨k1, h1⟩ := refFree hd hD (e := e) (by unfold TOP at hb'; omega)
      have hl := fr_len e d
      obtain ⟨k2, h2⟩ := place_l0 (L := fr e d) (sz := sz) (st := st) (e := e) (by omega) (by omega) (by omega) (by omega) (fr_bd hD) (fr e d).length 0 (by omega)
      have m1 : ∀ a k, crierref05_Free.f k d e = some (flI (fr e d)) → crierref05_Free.f (k + a) d e = some (flI (fr e d)) := by
        intro a
        induction a with
        | zero => exact fun k h => h
        | succ a ih => exact fun k h => by rw [← Nat.add_assoc]; exact crierref05_Free.mono d e (k + a) _ (ih k h)
      have m2 : ∀ a k r, crierref05_Place.l0 k sz st (flI (fr e d)) ((2 * 0 : Nat) : Int) = some r → crierref05_Place.l0 (k + a) sz st (flI (fr e d)) ((2 * 0 : Nat) : Int) = some r := by
        intro a
        induction a with
        | zero => exact fun k r h => h
        | succ a ih => exact fun k r h => by rw [← Nat.add_assoc]; exact (crierref05_Place.mono_l (k + a)).2 _ _ _ _ _ (ih k r h)
      refine ⟨k1 + k2 + 1, ?_⟩
      show crierref05_Place.j0 (k1 + k2 + 1) d sz st e false = _
      rw [crierref05_Place.j0, if_neg (by decide), m1 k2 k1 h1, Option.bind_some, Nat.add_comm k1 k2, plc, if_neg hb]
      exact m2 k1 k2 _ h2
  have hfe : (fun k => crierref05_Place.f k d sz st e) = fun k => crierref05_Place.j0 k d sz st e (decide (argBad sz st e)) := by
    funext k
    unfold crierref05_Place.f
    by_cases h1 : sz < 1
    · rw [if_pos h1, decide_eq_true (show argBad sz st e by unfold argBad TOP; omega)]
    rw [if_neg h1]
    by_cases h2 : sz > 1099511627776
    · rw [if_pos h2, decide_eq_true (show argBad sz st e by unfold argBad TOP; omega)]
    rw [if_neg h2]
    by_cases h3 : st < 1
    · rw [if_pos h3, decide_eq_true (show argBad sz st e by unfold argBad TOP; omega)]
    rw [if_neg h3]
    by_cases h4 : st > 1099511627776
    · rw [if_pos h4, decide_eq_true (show argBad sz st e by unfold argBad TOP; omega)]
    rw [if_neg h4]
    by_cases h5 : e < 0
    · rw [if_pos h5, decide_eq_true (show argBad sz st e by unfold argBad TOP; omega)]
    rw [if_neg h5]
    by_cases h6 : e > 1099511627776
    · rw [decide_eq_true h6, decide_eq_true (show argBad sz st e by unfold argBad TOP; omega)]
    · rw [decide_eq_false h6, decide_eq_false (show ¬ argBad sz st e by unfold argBad TOP; omega)]
  rw [hfe]
  exact hj _ rfl
end Go.Proofs.Ytjkbocejdjnfiaa.Bs
