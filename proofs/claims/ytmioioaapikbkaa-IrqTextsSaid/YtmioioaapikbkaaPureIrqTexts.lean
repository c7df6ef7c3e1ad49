/- Which texts are states', and whose, is what the document says; each state's text is read as it: for every input. -/
import Derived.Test.YtmioioaapikbkaaP0
import Derived.Test.YtmioioaapikbkaaIAllx11
namespace Go.Proofs.Ytmioioaapikbkaa.Pure
open Go.RowKit Go.Proofs.Ytmioioaapikbkaa.IAll Go.Proofs.YtmioioaapikbkaaW.PrintWords Go.Proofs.YtmioioaapikbkaaW.PrintLast Go.Proofs.YtmioioaapikbkaaW.PrintMore

theorem tl (l : List UInt8) : (⟨l.toArray⟩ : ByteArray).toList = l := by rw [ByteArray.toList_eq]
theorem sz (l : List UInt8) : (⟨l.toArray⟩ : ByteArray).size = l.length := rfl
theorem bt_mk (l : List UInt8) (i : Int) : bt ⟨l.toArray⟩ i = ((l.getD i.toNat 0).toNat : Int) := by
  unfold bt
  split
  · rename_i h
    rw [sz] at h
    rw [List.getD_eq_getElem?_getD, List.getElem?_eq_getElem h]
    rfl
  · rename_i h
    rw [sz] at h
    rw [List.getD_eq_getElem?_getD, List.getElem?_eq_none (by omega)]
    rfl
/-- what the document reads: the letters, one after another -/
def eat (c : UInt8) : List UInt8 → Bool × List UInt8
  | [] => (false, [])
  | x :: r => if x = c then (true, r) else (false, x :: r)
theorem eat_true {c : UInt8} {l r : List UInt8} (h : eat c l = (true, r)) : l = c :: r := by
  cases l with
  | nil => simp [eat] at h
  | cons x t => by_cases hx : x = c <;> simp [eat, hx] at h; rw [h, hx]
theorem eat_false {c : UInt8} {l r : List UInt8} (h : eat c l = (false, r)) : r = l := by
  cases l with
  | nil => simp [eat] at h; exact h
  | cons x t => by_cases hx : x = c <;> simp [eat, hx] at h; exact h.symm
theorem eat_hit {c x : UInt8} {t : List UInt8} (h : x = c) : eat c (x :: t) = (true, t) := by simp [eat, h]
theorem eat_miss {c x : UInt8} {t : List UInt8} (h : ¬ x = c) : eat c (x :: t) = (false, x :: t) := by simp [eat, h]
theorem byte_eq (x : UInt8) (n : Nat) (hn : n < 256) : ((x.toNat : Int) = (n : Int)) ↔ x = UInt8.ofNat n := by
  constructor
  · intro h
    apply UInt8.toNat_inj.1
    rw [UInt8.toNat_ofNat']
    omega
  · intro h
    rw [h, UInt8.toNat_ofNat']
    omega
/-- from place k of the text, what comes -/
theorem at_drop {l : List UInt8} {k : Nat} {r : List UInt8} (h : l.drop k = r) : l.length = k + r.length ∨ (r = [] ∧ l.length ≤ k) := by
  subst h; rw [List.length_drop]
  by_cases hk : k ≤ l.length
  · left; omega
  · right; exact ⟨List.drop_eq_nil_iff.2 (by omega), by omega⟩
theorem at_bt {l : List UInt8} {k : Nat} {x : UInt8} {r : List UInt8} (h : l.drop k = x :: r) : bt ⟨l.toArray⟩ (k : Int) = (x.toNat : Int) := by
  rw [bt_mk, List.getD_eq_getElem?_getD]
  have : l[k]? = some x := by
    have := List.getElem?_drop (xs := l) (i := k) (j := 0)
    rw [h] at this; simpa using this.symm
  simp [this]
theorem drop_next {l : List UInt8} {k : Nat} {x : UInt8} {r : List UInt8} (h : l.drop k = x :: r) : l.drop (k + 1) = r := by
  rw [← List.drop_drop, h]; rfl

def refP (l : List UInt8) : Bool × Bool × Bool × Bool × Bool :=
  match l with
  | [] => (false, false, false, false, false)
  | c :: t =>
    if c = 101 ∨ c = 108 then
      let h := eat 104 t; let w := eat 119 h.2; let a := eat 97 w.2
      if a.2 = [] then (decide (c = 101), h.1, w.1, a.1, true) else (false, false, false, false, false)
    else (false, false, false, false, false)
theorem j4_is (l r : List UInt8) (k : Nat) (hl : l.length ≤ 9223372036854775807) (hk : k ≤ l.length) (h : l.drop k = r) (K : Nat) (e h_ w : Bool) :
    crierref07_Parse.j4 (K + 2) ⟨l.toArray⟩ (k : Int) e h_ w false = some (if (eat 97 r).2 = [] then (e, h_, w, (eat 97 r).1, true) else (false, false, false, false, false)) := by
  rw [show K + 2 = (K + 1) + 1 from rfl]
  rw [crierref07_Parse.j4]
  have hlen : l.length = k + r.length := by rw [← h, List.length_drop]; omega
  rw [sz]
  cases r with
  | nil =>
    simp at hlen
    rw [if_neg (by omega)]
    rw [crierref07_Parse.j5]
    rw [sz, if_neg (by simp), if_pos (by omega)]
    rfl
  | cons x t =>
    simp at hlen
    rw [if_pos (by omega), if_pos (by omega), at_bt h]
    rw [crierref07_Parse.j5]
    rw [sz]
    by_cases hx : x = 97
    · have : ((x.toNat : Int) == 97) = true := beq_iff_eq.2 ((byte_eq x 97 (by decide)).2 hx)
      rw [this, if_pos rfl, w64 _ (by omega)]
      rw [eat_hit hx]
      by_cases ht : t = []
      · subst ht; simp at hlen; rw [if_pos (by omega), if_pos rfl]
      · have : 0 < t.length := List.length_pos_iff.2 ht
        rw [if_neg (by omega), if_neg ht]
    · have : ((x.toNat : Int) == 97) = false := beq_eq_false_iff_ne.2 (fun hh => hx ((byte_eq x 97 (by decide)).1 hh))
      rw [this, if_neg (by simp), if_neg (by omega)]
      rw [eat_miss hx, if_neg (by simp)]
theorem j2_is (l r : List UInt8) (k : Nat) (hl : l.length ≤ 9223372036854775807) (hk : k ≤ l.length) (h : l.drop k = r) (K : Nat) (e h_ : Bool) :
    crierref07_Parse.j2 (K + 4) ⟨l.toArray⟩ (k : Int) e h_ false false = some (if (eat 97 (eat 119 r).2).2 = [] then (e, h_, (eat 119 r).1, (eat 97 (eat 119 r).2).1, true) else (false, false, false, false, false)) := by
  rw [show K + 4 = (K + 3) + 1 from rfl]
  rw [crierref07_Parse.j2]
  have hlen : l.length = k + r.length := by rw [← h, List.length_drop]; omega
  rw [sz]
  cases r with
  | nil =>
    simp at hlen
    rw [if_neg (by omega)]
    rw [show K + 3 = (K + 2) + 1 from rfl]
    rw [crierref07_Parse.j3]
    rw [if_neg (by simp)]
    exact j4_is l [] k hl hk h K e h_ false
  | cons x t =>
    simp at hlen
    rw [if_pos (by omega), if_pos (by omega), at_bt h]
    rw [show K + 3 = (K + 2) + 1 from rfl]
    rw [crierref07_Parse.j3]
    by_cases hx : x = 119
    · have : ((x.toNat : Int) == 119) = true := beq_iff_eq.2 ((byte_eq x 119 (by decide)).2 hx)
      rw [this, if_pos rfl, w64 _ (by omega)]
      rw [eat_hit hx]
      exact j4_is l t (k + 1) hl (by omega) (drop_next h) K e h_ true
    · have : ((x.toNat : Int) == 119) = false := beq_eq_false_iff_ne.2 (fun hh => hx ((byte_eq x 119 (by decide)).1 hh))
      rw [this, if_neg (by simp)]
      rw [eat_miss hx]
      exact j4_is l (x :: t) k hl hk h K e h_ false
theorem j0_is (l t : List UInt8) (c : UInt8) (hl : l.length ≤ 9223372036854775807) (h : l = c :: t) (K : Nat) (hc : c = 101 ∨ c = 108) :
    crierref07_Parse.j0 (K + 6) ⟨l.toArray⟩ false false false false false = some (refP l) := by
  subst h
  rw [show K + 6 = (K + 5) + 1 from rfl]
  rw [crierref07_Parse.j0]
  rw [sz, if_neg (by simp), if_pos (by simp)]
  have hb0 : (bt ⟨(c :: t).toArray⟩ 0 == 101) = decide (c = 101) := by
    rw [bt_mk]
    show (((c.toNat : Nat) : Int) == 101) = _
    by_cases hx : c = 101
    · rw [show ((c.toNat : Int) == 101) = true from beq_iff_eq.2 ((byte_eq c 101 (by decide)).2 hx)]; simp [hx]
    · rw [show ((c.toNat : Int) == 101) = false from beq_eq_false_iff_ne.2 (fun hh => hx ((byte_eq c 101 (by decide)).1 hh))]; simp [hx]
  have hr : refP (c :: t) = (if (eat 97 (eat 119 (eat 104 t).2).2).2 = [] then (decide (c = 101), (eat 104 t).1, (eat 119 (eat 104 t).2).1, (eat 97 (eat 119 (eat 104 t).2).2).1, true) else (false, false, false, false, false)) := by
    rw [refP, if_pos hc]
  rw [hb0, hr]
  cases t with
  | nil =>
    rw [if_neg (by simp)]
    rw [show K + 5 = (K + 4) + 1 from rfl]
    rw [crierref07_Parse.j1]
    rw [if_neg (by simp)]
    exact j2_is [c] [] 1 hl (by simp) rfl K _ false
  | cons x t =>
    rw [if_pos (by simp; omega), show (1 : Int) = ((1 : Nat) : Int) from rfl, at_bt (l := c :: x :: t) (k := 1) (x := x) (r := t) rfl]
    rw [show K + 5 = (K + 4) + 1 from rfl]
    rw [crierref07_Parse.j1]
    by_cases hx : x = 104
    · have : ((x.toNat : Int) == 104) = true := beq_iff_eq.2 ((byte_eq x 104 (by decide)).2 hx)
      rw [this, if_pos rfl, w64 _ (by omega)]
      rw [eat_hit hx]
      exact j2_is (c :: x :: t) t 2 hl (by simp) rfl K _ true
    · have : ((x.toNat : Int) == 104) = false := beq_eq_false_iff_ne.2 (fun hh => hx ((byte_eq x 104 (by decide)).1 hh))
      rw [this, if_neg (by simp)]
      rw [eat_miss hx]
      exact j2_is (c :: x :: t) (x :: t) 1 hl (by simp) rfl K (decide (c = 101)) false
theorem ref_is (l : List UInt8) (hl : l.length ≤ 9223372036854775807) (K : Nat) : crierref07_Parse.f (K + 6) ⟨l.toArray⟩ = some (refP l) := by
  unfold crierref07_Parse.f
  rw [tl, sz]
  cases l with
  | nil =>
    rw [if_pos rfl]
    rw [show K + 6 = (K + 5) + 1 from rfl]
    rw [crierref07_Parse.j0]
    rw [if_pos rfl]; rfl
  | cons c t =>
    rw [if_neg (by simp), if_pos (by simp)]
    have hb : bt ⟨(c :: t).toArray⟩ 0 = (c.toNat : Int) := by rw [bt_mk]; rfl
    rw [hb]
    by_cases hx : c = 101
    · rw [if_pos (show ((c.toNat : Int) = 101) from (byte_eq c 101 (by decide)).2 hx)]
      exact j0_is _ t c hl rfl K (.inl hx)
    · rw [if_neg (show ¬ ((c.toNat : Int) = 101) from fun hh => hx ((byte_eq c 101 (by decide)).1 hh))]
      by_cases hy : c = 108
      · have : ((c.toNat : Int) != 108) = false := bne_eq_false_iff_eq.2 ((byte_eq c 108 (by decide)).2 hy)
        rw [this]
        exact j0_is _ t c hl rfl K (.inr hy)
      · have : ((c.toNat : Int) != 108) = true := bne_iff_ne.2 (fun hh => hy ((byte_eq c 108 (by decide)).1 hh))
        rw [this]
        rw [show K + 6 = (K + 5) + 1 from rfl, crierref07_Parse.j0]
        rw [if_pos rfl, refP, if_neg (by simp [hx, hy])]
theorem refP_true {l : List UInt8} {e h w a : Bool} (hr : refP l = (e, h, w, a, true)) : l = tx3 e h w a := by
  unfold refP at hr
  split at hr
  · simp at hr
  · rename_i c t
    split at hr
    · rename_i hc
      simp only at hr
      split at hr
      · rename_i hn
        simp only [Prod.mk.injEq, and_true] at hr
        obtain ⟨rfl, rfl, rfl, rfl⟩ := hr
        generalize hA : eat 104 t = A at *
        obtain ⟨h1, t1⟩ := A
        generalize hB : eat 119 t1 = B at *
        obtain ⟨h2, t2⟩ := B
        generalize hC : eat 97 t2 = C at *
        obtain ⟨h3, t3⟩ := C
        simp only at hn ⊢
        subst hn
        have e1 : t = (if h1 = true then [104] else []) ++ t1 := by
          cases h1 with
          | true => exact eat_true hA
          | false => exact (eat_false hA).symm
        have e2 : t1 = (if h2 = true then [119] else []) ++ t2 := by
          cases h2 with
          | true => exact eat_true hB
          | false => exact (eat_false hB).symm
        have e3 : t2 = (if h3 = true then [97] else []) ++ [] := by
          cases h3 with
          | true => exact eat_true hC
          | false => exact (eat_false hC).symm
        rw [e1, e2, e3]
        unfold tx3 tx2 tx1 tx0
        rcases hc with rfl | rfl <;> simp
      · simp at hr
    · simp at hr
theorem refP_false {l : List UInt8} {e h w a : Bool} (hr : refP l = (e, h, w, a, false)) : (e, h, w, a) = (false, false, false, false) := by
  unfold refP at hr
  split at hr
  · simpa using hr
  · split at hr
    · simp only at hr
      split at hr
      · simp at hr
      · simpa using hr
    · simpa using hr
theorem refP_of : ∀ e h w a : Bool, refP (tx3 e h w a) = (e, h, w, a, true) := by decide +kernel
/-- the program's reading -/
theorem parse_of : ∀ e h w a : Bool, irq_Parse.f 20 ⟨(tx3 e h w a).toArray⟩ = some (e, h, w, a, 0) := by decide +kernel
theorem parse_none (l : List UInt8) (hn : ∀ e h w a, l ≠ tx3 e h w a) : irq_Parse.f 20 ⟨l.toArray⟩ = some (false, false, false, false, 1) := by
  have step : ∀ (K : Nat) (i : Int), 0 ≤ i → i < 16 → irq_Parse.l0 (K + 1) ⟨l.toArray⟩ i = irq_Parse.l0 K ⟨l.toArray⟩ (i + 1) := by
    intro K i h0 h1
    conv => lhs; unfold irq_Parse.l0
    rw [if_pos h1]
    simp only [irq_Text.f, Option.bind_some, tl]
    rw [if_neg (fun hh => hn _ _ _ _ hh.symm), w64 _ (by omega)]
  unfold irq_Parse.f
  rw [step 19 _ (by decide) (by decide), step 18 _ (by decide) (by decide), step 17 _ (by decide) (by decide), step 16 _ (by decide) (by decide), step 15 _ (by decide) (by decide), step 14 _ (by decide) (by decide), step 13 _ (by decide) (by decide), step 12 _ (by decide) (by decide),
    step 11 _ (by decide) (by decide), step 10 _ (by decide) (by decide), step 9 _ (by decide) (by decide), step 8 _ (by decide) (by decide), step 7 _ (by decide) (by decide), step 6 _ (by decide) (by decide), step 5 _ (by decide) (by decide), step 4 _ (by decide) (by decide)]
  unfold irq_Parse.l0
  rw [if_neg (by decide)]
theorem tail_true : ∀ e h w a e' h' w' a' : Bool, ((irq_Shown.f e h w a e' h' w' a').bind fun t250 => ((crierref07_Phase.f e h w a).bind fun t251 => ((crierref07_Phase.f e' h' w' a').bind fun t252 => (some (t250 == (t251 == t252)))))) = some true := by decide +kernel
theorem IrqTexts (s : ByteArray) (hs : s.size ≤ 9223372036854775807) (e h w a e' h' w' a' : Bool) : crierlaw07_IrqTexts.f 20 s e h w a e' h' w' a' = some true := by
  obtain ⟨⟨l⟩⟩ := s
  rw [sz] at hs
  unfold crierlaw07_IrqTexts.f
  rw [awake20, Option.bind_some, if_pos rfl, ref_is l (by omega) 14]
  have hT := tail_true e h w a e' h' w' a'
  have hP : irq_Text.f e h w a = some ⟨(tx3 e h w a).toArray⟩ := rfl
  rw [hP]
  generalize hz : refP l = z
  obtain ⟨z0, z1, z2, z3, z4⟩ := z
  cases z4 with
  | true =>
    obtain rfl := refP_true hz
    rw [parse_of, Option.bind_some, Option.bind_some, Option.bind_some, parse_of, Option.bind_some]
    simp only [beq_self_eq_true, Bool.and_self, if_true]
    exact hT
  | false =>
    have hn : ∀ e h w a, l ≠ tx3 e h w a := by
      rintro e h w a rfl
      rw [refP_of] at hz
      simp at hz
    have hz' := refP_false hz
    simp only [Prod.mk.injEq] at hz'
    obtain ⟨rfl, rfl, rfl, rfl⟩ := hz'
    rw [parse_none l hn, Option.bind_some, Option.bind_some, Option.bind_some, parse_of, Option.bind_some]
    simp only [beq_self_eq_true, Bool.and_self, if_true]
    rw [if_pos (by decide), if_neg (by decide)]
    exact hT
theorem irqTexts_both (s : ByteArray) (e h w a e' h' w' a' : Bool) (hs : s.size ≤ maxLen) (W : World) :
    Calls Try.prog 7 #[.string s, .agg #[.bool e, .bool h, .bool w, .bool a], .agg #[.bool e', .bool h', .bool w', .bool a']] W fun en w' => en = .returned (.bool true) ∧ Below W.heap.size W w' :=
  crierlaw07_IrqTexts.calls 20 s e h w a e' h' w' a' true W (IrqTexts s (by unfold maxLen at hs; omega) e h w a e' h' w' a') (Aside0.mk rfl)
end Go.Proofs.Ytmioioaapikbkaa.Pure
