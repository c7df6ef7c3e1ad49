/- Of list registers that may stand beside one another any ones may, in any order; an interrupt stands in one of them at most: for every input. -/
import Derived.Test.YtbhideabefjadaaP0
import Derived.Test.YtbhideabefjadaaIAllx19
namespace Go.Proofs.Ytbhideabefjadaa.Pure
open Go.RowKit Go.Proofs.Ytbhideabefjadaa.IAll Go.Proofs.YtbhideabefjadaaW.PrintWords Go.Proofs.YtbhideabefjadaaW.PrintLast Go.Proofs.YtbhideabefjadaaW.PrintMore

theorem step_is (i n : Nat) (h : i < n) (hn : n ≤ 9223372036854775806) : wrap64 ((i : Int) + 1) = ((i + 1 : Nat) : Int) := by rw [w64 _ (by omega)]; simp
def okS (x : S24) : Prop := ok x.f0 x.f1 x.f2 x.f3 x.f4 x.f5 x.f6
instance (x : S24) : Decidable (okS x) := by unfold okS; infer_instance
/-- do two stand for one interrupt? -/
def clash (x y : S24) : Prop := x.f0 ≠ 0 ∧ y.f0 ≠ 0 ∧ x.f1 = y.f1
instance (x y : S24) : Decidable (clash x y) := by unfold clash; infer_instance
theorem rd_take (l : List S24) (i j : Nat) (h : j < i) : rd_T24 (l.take i) j = rd_T24 l j := by
  unfold rd_T24
  simp only [Int.toNat_natCast, List.getD_eq_getElem?_getD]
  rw [List.getElem?_take_of_lt h]
/-- the inner loop -/
theorem inner (l : List S24) (hl : l.length ≤ 16) (i : Nat) (hi : i < l.length) (m : Nat) : ∀ (K j : Nat), j + m = i →
    ((∃ q : Nat, j ≤ q ∧ q < i ∧ clash (rd_T24 l i) (rd_T24 l q)) → lr_Right.l1 (m + 1 + K) l l (l.length : Int) (i : Int) (l.take i) (i : Int) (j : Int) (rd_T24 l i).f0 (rd_T24 l i).f1 (rd_T24 l i).f2 (rd_T24 l i).f3 (rd_T24 l i).f4 (rd_T24 l i).f5 (rd_T24 l i).f6 = some 200) ∧
    ((¬ ∃ q : Nat, j ≤ q ∧ q < i ∧ clash (rd_T24 l i) (rd_T24 l q)) → lr_Right.l1 (m + 1 + K) l l (l.length : Int) (i : Int) (l.take i) (i : Int) (j : Int) (rd_T24 l i).f0 (rd_T24 l i).f1 (rd_T24 l i).f2 (rd_T24 l i).f3 (rd_T24 l i).f4 (rd_T24 l i).f5 (rd_T24 l i).f6 =
      lr_Right.l0 K l l (l.length : Int) ((i + 1 : Nat) : Int)) := by
  have htl : (l.take i).length = i := by rw [List.length_take]; omega
  induction m with
  | zero =>
    intro K j hj
    have hw := step_is i 16 (by omega) (by decide)
    rw [show 0 + 1 + K = K + 1 by omega, lr_Right.l1, if_neg (show ¬ (j : Int) < (i : Int) by omega), hw]
    exact ⟨fun ⟨q, h1, h2, _⟩ => by omega, fun _ => rfl⟩
  | succ m ih =>
    intro K j hj
    have hw := step_is j 16 (by omega) (by decide)
    have hji : j < i := by clear hw ih; omega
    have e1 : (j : Int) < (i : Int) := Int.ofNat_lt.2 hji
    have e2 : (0 : Int) ≤ (j : Int) := Int.natCast_nonneg j
    have e3 : (j : Int) < ((l.take i).length : Int) := by rw [htl]; exact e1
    rw [show m + 1 + 1 + K = (m + 1 + K) + 1 by omega, lr_Right.l1, if_pos e1, if_pos e2, if_pos e3, rd_take l i j hji, hw]
    clear hw
    obtain ⟨i1, i2⟩ := ih K (j + 1) (by omega)
    have split : (∃ q : Nat, j ≤ q ∧ q < i ∧ clash (rd_T24 l i) (rd_T24 l q)) ↔ clash (rd_T24 l i) (rd_T24 l j) ∨ ∃ q : Nat, j + 1 ≤ q ∧ q < i ∧ clash (rd_T24 l i) (rd_T24 l q) := by
      constructor
      · rintro ⟨q, h1, h2, h3⟩
        by_cases e : q = j
        · subst e; exact .inl h3
        · exact .inr ⟨q, by omega, h2, h3⟩
      · rintro (h | ⟨q, h1, h2, h3⟩)
        · exact ⟨j, Nat.le_refl _, hji, h⟩
        · exact ⟨q, by omega, h2, h3⟩
    rw [split]
    by_cases c1 : (rd_T24 l i).f0 = 0
    · rw [if_pos c1]
      have hn : ¬ clash (rd_T24 l i) (rd_T24 l j) := fun h => h.1 c1
      exact ⟨fun h => i1 (h.resolve_left hn), fun h => i2 (fun h' => h (.inr h'))⟩
    · rw [if_neg c1]
      by_cases c2 : (rd_T24 l j).f0 = 0
      · rw [if_pos c2]
        have hn : ¬ clash (rd_T24 l i) (rd_T24 l j) := fun h => h.2.1 c2
        exact ⟨fun h => i1 (h.resolve_left hn), fun h => i2 (fun h' => h (.inr h'))⟩
      · rw [if_neg c2]
        by_cases c3 : (rd_T24 l i).f1 = (rd_T24 l j).f1
        · rw [if_pos c3]
          exact ⟨fun _ => rfl, fun h => absurd (.inl ⟨c1, c2, c3⟩) h⟩
        · rw [if_neg c3]
          have hn : ¬ clash (rd_T24 l i) (rd_T24 l j) := fun h => c3 h.2.2
          exact ⟨fun h => i1 (h.resolve_left hn), fun h => i2 (fun h' => h (.inr h'))⟩
/-- one that may not be, or not beside one ahead of it -/
def badAt (l : List S24) (a : Nat) : Prop := ¬ okS (rd_T24 l a) ∨ ∃ q : Nat, q < a ∧ clash (rd_T24 l a) (rd_T24 l q)
theorem outer (l : List S24) (hl : l.length ≤ 16) (m : Nat) : ∀ (K i : Nat), i + m = l.length →
    ((∃ a : Nat, i ≤ a ∧ a < l.length ∧ badAt l a) → lr_Right.l0 (20 * m + 3 + K) l l (l.length : Int) (i : Int) = some 200) ∧
    ((¬ ∃ a : Nat, i ≤ a ∧ a < l.length ∧ badAt l a) → lr_Right.l0 (20 * m + 3 + K) l l (l.length : Int) (i : Int) = some 0) := by
  induction m with
  | zero =>
    intro K i hi
    rw [show 20 * 0 + 3 + K = (K + 2) + 1 by omega, lr_Right.l0, if_neg (show ¬ (i : Int) < (l.length : Int) by omega)]
    exact ⟨fun ⟨q, h1, h2, _⟩ => by omega, fun _ => rfl⟩
  | succ m ih =>
    intro K i hi
    have hil : i < l.length := by clear ih; omega
    have e1 : (i : Int) < (l.length : Int) := Int.ofNat_lt.2 hil
    have e2 : (0 : Int) ≤ (i : Int) := Int.natCast_nonneg i
    have e3 : (i : Int) ≤ (l.length : Int) := Int.le_of_lt e1
    have htl : (l.take i).length = i := by rw [List.length_take]; omega
    rw [show 20 * (m + 1) + 3 + K = (20 * m + 20 + K + 2) + 1 by omega, lr_Right.l0, if_pos e1, if_pos e2, if_pos e1, may_is, Option.bind_some]
    have split : (∃ a : Nat, i ≤ a ∧ a < l.length ∧ badAt l a) ↔ badAt l i ∨ ∃ a : Nat, i + 1 ≤ a ∧ a < l.length ∧ badAt l a := by
      constructor
      · rintro ⟨q, h1, h2, h3⟩
        by_cases e : q = i
        · subst e; exact .inl h3
        · exact .inr ⟨q, by omega, h2, h3⟩
      · rintro (h | ⟨q, h1, h2, h3⟩)
        · exact ⟨i, Nat.le_refl _, hil, h⟩
        · exact ⟨q, by omega, h2, h3⟩
    rw [split]
    by_cases hk : okS (rd_T24 l i)
    · have hk' : ok (rd_T24 l i).f0 (rd_T24 l i).f1 (rd_T24 l i).f2 (rd_T24 l i).f3 (rd_T24 l i).f4 (rd_T24 l i).f5 (rd_T24 l i).f6 := hk
      rw [if_pos hk', if_pos rfl, if_pos e3, Option.bind_some, Int.toNat_natCast, htl, show 20 * m + 20 + K + 2 = i + 1 + (20 * m + 3 + (18 - i + K)) by omega]
      obtain ⟨j1, j2⟩ := inner l hl i hil i (20 * m + 3 + (18 - i + K)) 0 (by omega)
      obtain ⟨i1, i2⟩ := ih (18 - i + K) (i + 1) (by omega)
      by_cases hq : ∃ q : Nat, 0 ≤ q ∧ q < i ∧ clash (rd_T24 l i) (rd_T24 l q)
      · have := j1 hq
        simp only [Int.natCast_zero] at this
        rw [this]
        obtain ⟨q, _, hq1, hq2⟩ := hq
        exact ⟨fun _ => rfl, fun h => absurd (.inl (.inr ⟨q, hq1, hq2⟩)) h⟩
      · have := j2 hq
        simp only [Int.natCast_zero] at this
        rw [this]
        have hn : ¬ badAt l i := by
          rintro (h | ⟨q, hq1, hq2⟩)
          · exact h hk
          · exact hq ⟨q, Nat.zero_le _, hq1, hq2⟩
        exact ⟨fun h => i1 (h.resolve_left hn), fun h => i2 (fun h' => h (.inr h'))⟩
    · have hk' : ¬ ok (rd_T24 l i).f0 (rd_T24 l i).f1 (rd_T24 l i).f2 (rd_T24 l i).f3 (rd_T24 l i).f4 (rd_T24 l i).f5 (rd_T24 l i).f6 := hk
      rw [if_neg hk', if_neg (by decide)]
      exact ⟨fun _ => rfl, fun h => absurd (.inl (.inl hk)) h⟩
theorem right_bad (l : List S24) (hl : l.length ≤ 16) (K : Nat) (h : ∃ a : Nat, a < l.length ∧ badAt l a) : lr_Right.f (400 + K) l = some 200 := by
  unfold lr_Right.f
  rw [if_neg (by omega), show 400 + K = 20 * l.length + 3 + (397 - 20 * l.length + K) by omega]
  obtain ⟨a, h1, h2⟩ := h
  exact (outer l hl l.length _ 0 (by omega)).1 ⟨a, Nat.zero_le _, h1, h2⟩
theorem right_good (l : List S24) (hl : l.length ≤ 16) (K : Nat) (h : ¬ ∃ a : Nat, a < l.length ∧ badAt l a) : lr_Right.f (400 + K) l = some 0 := by
  unfold lr_Right.f
  rw [if_neg (by omega), show 400 + K = 20 * l.length + 3 + (397 - 20 * l.length + K) by omega]
  exact (outer l hl l.length _ 0 (by omega)).2 (fun ⟨a, _, h1, h2⟩ => h ⟨a, h1, h2⟩)
/-- the places that are taken, in another order -/
def js (n o t : Nat) : Nat → List Nat
  | 0 => []
  | i + 1 => js n o t i ++ if i = o then [] else [(i + t) % n]
theorem js_mem (n o t : Nat) (i : Nat) : ∀ x ∈ js n o t i, ∃ q, q < i ∧ x = (q + t) % n := by
  induction i with
  | zero => simp [js]
  | succ i ih =>
    intro x hx
    rw [js, List.mem_append] at hx
    rcases hx with hx | hx
    · obtain ⟨q, h1, h2⟩ := ih x hx; exact ⟨q, by omega, h2⟩
    · split at hx
      · simp at hx
      · simp at hx; exact ⟨i, by omega, hx⟩
theorem mod_inj (n t a b : Nat) (ha : a < n) (hb : b < n) (h : (a + t) % n = (b + t) % n) : a = b := by
  have e1 := Nat.div_add_mod (a + t) n
  have e2 := Nat.div_add_mod (b + t) n
  rw [h] at e1
  generalize (a + t) / n = x at *
  generalize (b + t) / n = y at *
  generalize (b + t) % n = r at *
  rcases Nat.lt_trichotomy x y with hxy | hxy | hxy
  · have : n * (x + 1) ≤ n * y := Nat.mul_le_mul_left n hxy
    rw [Nat.mul_add, Nat.mul_one] at this
    omega
  · subst hxy; omega
  · have : n * (y + 1) ≤ n * x := Nat.mul_le_mul_left n hxy
    rw [Nat.mul_add, Nat.mul_one] at this
    omega
theorem js_nodup (n o t : Nat) (i : Nat) (hi : i ≤ n) : (js n o t i).Nodup := by
  induction i with
  | zero => simp [js]
  | succ i ih =>
    rw [js, List.nodup_append]
    refine ⟨ih (by omega), by split <;> simp, ?_⟩
    intro a ha b hb
    split at hb
    · simp at hb
    · simp at hb; subst hb
      obtain ⟨q, h1, h2⟩ := js_mem n o t i a ha
      intro e
      rw [h2] at e
      have := mod_inj n t q i (by omega) (by omega) e
      omega
theorem js_length (n o t : Nat) (i : Nat) : (js n o t i).length ≤ i := by
  induction i with
  | zero => simp [js]
  | succ i ih => rw [js, List.length_append]; split <;> simp <;> omega
theorem rd_map (l : List S24) (ks : List Nat) (a : Nat) (h : a < ks.length) : rd_T24 (ks.map fun q : Nat => rd_T24 l (q : Int)) (a : Int) = rd_T24 l ((ks[a] : Nat) : Int) := by
  show (ks.map fun q : Nat => rd_T24 l (q : Int)).getD (a : Int).toNat z24 = _
  rw [Int.toNat_natCast, List.getD_eq_getElem?_getD, List.getElem?_map, List.getElem?_eq_getElem h]
  rfl
theorem clash_symm {x y : S24} (h : clash x y) : clash y x := ⟨h.2.1, h.1, h.2.2.symm⟩
theorem good_pair {l : List S24} (h : ¬ ∃ a : Nat, a < l.length ∧ badAt l a) {a b : Nat} (ha : a < l.length) (hb : b < l.length) (hne : a ≠ b) : ¬ clash (rd_T24 l a) (rd_T24 l b) := by
  intro hc
  rcases Nat.lt_or_gt_of_ne hne with hlt | hlt
  · exact h ⟨b, hb, .inr ⟨a, hlt, clash_symm hc⟩⟩
  · exact h ⟨a, ha, .inr ⟨b, hlt, hc⟩⟩
theorem other_good (l : List S24) (h : ¬ ∃ a : Nat, a < l.length ∧ badAt l a) (o t : Nat) (hn : 0 < l.length) :
    ¬ ∃ a : Nat, a < ((js l.length o t l.length).map fun q : Nat => rd_T24 l (q : Int)).length ∧ badAt ((js l.length o t l.length).map fun q : Nat => rd_T24 l (q : Int)) a := by
  rintro ⟨a, ha, hb⟩
  rw [List.length_map] at ha
  have lt_of : ∀ b (hb : b < (js l.length o t l.length).length), (js l.length o t l.length)[b] < l.length := by
    intro b hb
    obtain ⟨q, _, hq⟩ := js_mem l.length o t l.length _ (List.getElem_mem hb)
    rw [hq]; exact Nat.mod_lt _ hn
  rcases hb with hb | ⟨q, hq, hc⟩
  · rw [rd_map l _ a ha] at hb
    exact h ⟨_, lt_of a ha, .inl hb⟩
  · rw [rd_map l _ a ha, rd_map l _ q (by omega)] at hc
    refine good_pair h (lt_of a ha) (lt_of q (by omega)) (fun e => ?_) hc
    have := (List.getElem_inj (js_nodup l.length o t l.length (Nat.le_refl _))).1 e
    omega
/-- where each of them stands -/
theorem find_is (l : List S24) (h : ¬ ∃ a : Nat, a < l.length ∧ badAt l a) (i : Nat) (hi : i < l.length) (hf : (rd_T24 l i).f0 ≠ 0) : findOf l (rd_T24 l i).f1 = (i : Int) := by
  have hall : ∀ x ∈ places (pFind (rd_T24 l i).f1) l, x = (i : Int) := by
    intro x hx
    obtain ⟨h0, h1, h2⟩ := pl_mem _ l l.length x hx
    obtain ⟨q, rfl⟩ := Int.eq_ofNat_of_zero_le h0
    by_cases e : q = i
    · rw [e]
    · unfold pFind at h2
      simp only [Bool.and_eq_true, bne_iff_ne, ne_eq, beq_iff_eq] at h2
      exact absurd ⟨h2.1, hf, h2.2⟩ (good_pair h (show q < l.length by simpa using h1) hi e)
  have hmem : (i : Int) ∈ places (pFind (rd_T24 l i).f1) l := by
    have hp : pFind (rd_T24 l i).f1 (rd_T24 l i) = true := by unfold pFind; simp [hf]
    obtain ⟨post, hx⟩ := places_at (pFind (rd_T24 l i).f1) l i hi hp
    rw [hx]; simp
  unfold findOf
  cases hL : places (pFind (rd_T24 l i).f1) l with
  | nil => rw [hL] at hmem; simp at hmem
  | cons x xs => exact hall x (by rw [hL]; simp)
theorem run1 (l : List S24) (hl : l.length ≤ 16) (h : ¬ ∃ a : Nat, a < l.length ∧ badAt l a) (ot : List S24) (hot : ot.length ≤ 16) (hg : ¬ ∃ a : Nat, a < ot.length ∧ badAt ot a) (m : Nat) : ∀ (K i : Nat), i + m = l.length →
    crierlaw20_LrRight.l1 (m + 1 + (400 + K)) l true ot (i : Int) = some true := by
  induction m with
  | zero =>
    intro K i hi
    rw [show 0 + 1 + (400 + K) = (400 + K) + 1 by omega, crierlaw20_LrRight.l1, if_neg (show ¬ (i : Int) < (l.length : Int) by omega), if_pos rfl, right_good ot hot K hg]
    rfl
  | succ m ih =>
    intro K i hi
    have hil : i < l.length := by clear ih; omega
    have hw := step_is i 16 (by omega) (by decide)
    have e1 : (i : Int) < (l.length : Int) := Int.ofNat_lt.2 hil
    have e2 : (0 : Int) ≤ (i : Int) := Int.natCast_nonneg i
    rw [show m + 1 + 1 + (400 + K) = (m + 1 + (400 + K)) + 1 by omega, crierlaw20_LrRight.l1, if_pos e1, if_pos e2, hw]
    clear hw
    have hr := ih K (i + 1) (by omega)
    by_cases c : (rd_T24 l i).f0 = 0
    · rw [if_pos c]; exact hr
    · rw [if_neg c]
      unfold lr_Find.f
      rw [if_pos (by omega), Option.bind_some, find_is l h i hil c, if_pos rfl]
      exact hr
theorem run0 (l : List S24) (hl : l.length ≤ 16) (hn : 0 < l.length) (h : ¬ ∃ a : Nat, a < l.length ∧ badAt l a) (a1 a2 : Int) (h1 : 0 ≤ a1 ∧ a1 ≤ 255) (h2 : 0 ≤ a2 ∧ a2 ≤ 255) (m : Nat) : ∀ (K i : Nat), i + m = l.length →
    crierlaw20_LrRight.l0 (m + 1 + (l.length + 1 + (400 + K))) l a1 a2 true ((js l.length (a1.toNat % l.length) a2.toNat i).map fun q : Nat => rd_T24 l (q : Int)) (i : Int) = some true := by
  induction m with
  | zero =>
    intro K i hi
    obtain rfl : i = l.length := by omega
    rw [show 0 + 1 + (l.length + 1 + (400 + K)) = (l.length + 1 + (400 + K)) + 1 by omega, crierlaw20_LrRight.l0, if_neg (show ¬ (l.length : Int) < (l.length : Int) by omega)]
    exact run1 l hl h _ (by rw [List.length_map]; have := js_length l.length (a1.toNat % l.length) a2.toNat l.length; omega) (other_good l h _ _ hn) l.length K 0 (by omega)
  | succ m ih =>
    intro K i hi
    have hil : i < l.length := by clear ih; omega
    have hw := step_is i 16 (by omega) (by decide)
    have e1 : (i : Int) < (l.length : Int) := Int.ofNat_lt.2 hil
    have hr := ih K (i + 1) (by omega)
    have n0 : ¬ ((l.length : Int) = 0) := by omega
    have t1 : Int.tmod (wrap64 a1) (l.length : Int) = ((a1.toNat % l.length : Nat) : Int) := by
      rw [w64 a1 (by omega), Int.tmod_eq_emod_of_nonneg h1.1]
      obtain ⟨x, rfl⟩ := Int.eq_ofNat_of_zero_le h1.1
      simp
    have t2 : Int.tmod (wrap64 ((i : Int) + wrap64 a2)) (l.length : Int) = (((i + a2.toNat) % l.length : Nat) : Int) := by
      rw [w64 a2 (by omega), w64 ((i : Int) + a2) (by omega), Int.tmod_eq_emod_of_nonneg (by omega)]
      obtain ⟨x, rfl⟩ := Int.eq_ofNat_of_zero_le h2.1
      simp
    rw [show m + 1 + 1 + (l.length + 1 + (400 + K)) = (m + 1 + (l.length + 1 + (400 + K))) + 1 by omega, crierlaw20_LrRight.l0, if_pos e1, if_neg n0, t1, t2, hw]
    clear hw t1 t2
    have hjl := js_length l.length (a1.toNat % l.length) a2.toNat i
    have hml : (i + a2.toNat) % l.length < l.length := Nat.mod_lt _ hn
    by_cases c : i = a1.toNat % l.length
    · rw [if_pos (by rw [← c])]
      rw [js, if_pos c, List.append_nil] at hr
      exact hr
    · rw [if_neg (by intro e; exact c (Int.ofNat.inj e)), if_pos (Int.natCast_nonneg _), if_pos (Int.ofNat_lt.2 hml), if_pos (by rw [List.length_map]; omega)]
      rw [js, if_neg c, List.map_append] at hr
      exact hr
theorem awake_true' (k : Nat) (h : 20 ≤ k) : crierlaw20_awake.f k = some true := by
  have := more_rounds (g := fun k => crierlaw20_awake.f k) crierlaw20_awake.mono 20 (k - 20) _ awake20
  rwa [show 20 + (k - 20) = k by omega] at this
theorem LrRight (l : List S24) (a1 a2 : Int) (h1 : 0 ≤ a1 ∧ a1 ≤ 255) (h2 : 0 ≤ a2 ∧ a2 ≤ 255) : crierlaw20_LrRight.f 1000 l a1 a2 = some true := by
  unfold crierlaw20_LrRight.f
  rw [awake_true' _ (by decide), Option.bind_some, if_pos rfl]
  by_cases hl : l.length ≤ 16
  · by_cases hb : ∃ a : Nat, a < l.length ∧ badAt l a
    · rw [show 1000 = 400 + 600 from rfl, right_bad l hl 600 hb, Option.bind_some, if_neg (by decide), show 400 + 600 = 999 + 1 from rfl, crierlaw20_LrRight.j0, if_pos rfl]
    · rw [show 1000 = 400 + 600 from rfl, right_good l hl 600 hb, Option.bind_some, if_pos rfl, show 400 + 600 = 999 + 1 from rfl, crierlaw20_LrRight.j0]
      by_cases hn : l.length = 0
      · rw [if_pos (by simp [hn])]
      · rw [if_neg (by simp; intro e; exact hn (by rw [e]; rfl)), show 999 = l.length + 1 + (l.length + 1 + (400 + (597 - 2 * l.length))) by omega]
        exact run0 l hl (by omega) hb a1 a2 h1 h2 l.length (597 - 2 * l.length) 0 (by omega)
  · have : lr_Right.f 1000 l = some 1 := by unfold lr_Right.f; rw [if_pos (by omega)]
    rw [this, Option.bind_some, if_neg (by decide), show 1000 = 999 + 1 from rfl, crierlaw20_LrRight.j0, if_pos rfl]
theorem lrRight_both (A : Option Addr) (c : Nat) (l : List S24) (a1 a2 : Int) (w : World) (hr : Kd.C k24 w A l.length l) (hc : l.length ≤ c) (_ : c ≤ maxLen)
    (_ : ∀ p ∈ l, (Lit.int .i64 p.f0).wf = true ∧ (Lit.int .i64 p.f1).wf = true ∧ (Lit.int .i64 p.f2).wf = true ∧ (Lit.int .i64 p.f3).wf = true ∧ (Lit.int .i64 p.f5).wf = true) (h1 : (Lit.int .u8 a1).wf = true) (h2 : (Lit.int .u8 a2).wf = true) :
    Calls Try.prog 8 #[.slice A l.length c, .int .u8 a1, .int .u8 a2] w fun en w' => en = .returned (.bool true) ∧ Below w.heap.size w w' :=
  crierlaw20_LrRight.calls 1000 A c l a1 a2 true w hr hc (LrRight l a1 a2 (wf_u8 h1) (wf_u8 h2)) (Aside0.mk rfl)
end Go.Proofs.Ytbhideabefjadaa.Pure
