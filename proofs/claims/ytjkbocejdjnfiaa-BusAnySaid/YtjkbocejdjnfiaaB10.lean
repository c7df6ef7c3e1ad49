/- What the law collects of a bus's spans. -/
import Derived.Test.YtjkbocejdjnfiaaB8
namespace Go.Proofs.Ytjkbocejdjnfiaa.Bs
open Go.RowKit Go.Shelf Go.Proofs.Ytjkbocejdjnfiaa.IAll Go.Proofs.YtjkbocejdjnfiaaW.PrintWords Go.Proofs.YtjkbocejdjnfiaaW.PrintLast Go.Proofs.YtjkbocejdjnfiaaW.PrintMore
attribute [local go_sem] Oper.semAt_some cell_row frozen_row isRow_setCell_eq rowAt_setCell_same rowAt_setCell_other isRow_alloc_eq rowAt_alloc rowAt_new rowAt_new' isRow_setRow_eq rowAt_setRow_same rowAt_setRow_other isRow_drew rowAt_drew size_setRow_ size_drew_ blk_ptr aggOf_agg below_alloc_e below_setCell_e below_setRow_e below_refl_e below_drew_r isRow_drewN rowAt_drewN below_drewN_e le_add_r asideP_alloc_e asideP_setCell_e asideP_setRow_e asideP_drew_e asideP_drewN_e asideP_refl_e cell_setRow_far cell_setCell_far cell_drew_ heap_setCell_far heap_setRow_far heap_drew_ ES_size ES_one ES_fold ES_0 ES_1 allOne_nil allOne_cons Value.oneCell'
attribute [local go_sem ↓] loadS storeS loadSg storeSg
def EL' (s : Sp) : List Value := [.int .i64 s.f0, .int .i64 s.f1, .int .i64 s.f2, .int .i64 s.f3]
def flE (d : List Sp) : List Value := d.flatMap EL'
theorem flE_snoc (d : List Sp) (x : Sp) : flE (d ++ [x]) = flE d ++ EL' x := by simp [flE]
theorem flE_at : ∀ (d : List Sp) (j i : Nat) (p : Sp), d[j]? = some p → i < 4 → (flE d)[j * 4 + i]? = (EL' p)[i]?
  | [], j, i, p, h, _ => by simp at h
  | x :: r, 0, i, p, h, hi => by
    obtain rfl : x = p := by simpa using h
    show (EL' x ++ flE r)[0 * 4 + i]? = _
    rw [Nat.zero_mul, Nat.zero_add, List.getElem?_append_left (by simpa [EL'] using hi)]
  | x :: r, j + 1, i, p, h, hi => by
    have h' : r[j]? = some p := by simpa using h
    show (EL' x ++ flE r)[(j + 1) * 4 + i]? = _
    rw [List.getElem?_append_right (by simp [EL']; omega), show (j + 1) * 4 + i - (EL' x).length = j * 4 + i by simp [EL']; omega]
    exact flE_at r j i p h' hi
theorem flE_len (d : List Sp) : (flE d).length = d.length * 4 := by
  unfold flE
  induction d with
  | nil => rfl
  | cons x r ih => rw [List.flatMap_cons, List.length_append, ih, List.length_cons]; simp [EL']; omega
theorem own_kd {W : World} {b : Nat} {v : Value} {d : List Sp} (h : W.ownsRow b 33 4 v d.length (flE d)) (hm : d.length ≤ 9223372036854775807) : ∃ A c, v = .slice A d.length c ∧ d.length ≤ c ∧ Kd.C k33 W A d.length d := by
  rcases h.2 with ⟨rfl, h0⟩ | ⟨g, cap, cur, rfl, hg, hh, hcap, hmax, hcs, htk⟩
  · have h0' : d = [] := List.length_eq_zero_iff.1 h0
    subst h0'
    exact ⟨none, 0, rfl, Nat.le_refl _, Kd.C_nil _ _⟩
  · refine ⟨some ⟨g, 0, none⟩, cap, rfl, hcap, rfl, hm, fun _ => ⟨⟨g, 0, none⟩, rfl, fun j p hq => ⟨EL' p, rfl, k33_mk W p, fun i u hu => ?_⟩⟩⟩
    have hi : i < 4 := by have := (List.getElem?_eq_some_iff.1 hu).1; simpa [EL'] using this
    have hj : j < d.length := (List.getElem?_eq_some_iff.1 hq).1
    have hrow : Row W g cur := Row.of (t := 33) hh
    show W.cell? ((⟨g, 0, none⟩ : Addr).add (j * 4 + i)) = _
    rw [addr_at, cell_row hrow.1, hrow.2]
    have h1 := flE_at d j i p hq hi
    rw [← htk, List.getElem?_take_of_lt (by omega)] at h1
    rw [← Array.getElem?_toList, h1]
    exact hu
theorem cell_four_new (w : World) (x : Sp) (t : TypeId) : ∀ j u, (EL' x)[j]? = some u → (w.alloc (.cells (ES x) t)).cell? ((⟨w.heap.size, 0, none⟩ : Addr).add j) = some u := by
  intro j u hj
  rw [addr_at, cell_row (isRow_new), rowAt_new]
  unfold ES
  unfold EL' at hj
  simpa using hj
def CA (a b k : Nat) (o : Obj) : Prop := k = a ∨ (b ≤ k ∧ ∃ cur, o = .cells cur 33)
def IA (a b : Nat) (w : World) (pre : List Sp) (W : World) : Prop := (∃ v, Boxed W a 22 v ∧ W.ownsRow b 33 4 v pre.length (flE pre)) ∧ Below w.heap.size w W ∧ b ≤ W.heap.size
theorem own_cells {W : World} {b n : Nat} {v : Value} {xs : List Value} (h : W.ownsRow b 33 4 v n xs) : ∀ k, v.ownBlock = some k → b ≤ k ∧ ∃ cur, W.heap[k]? = some (.cells cur 33 (0, 0)) := by
  intro k hk
  rcases h.2 with ⟨rfl, -⟩ | ⟨g, cap, cur, rfl, hg, hh, hcap, hmax, hcs, htk⟩
  · simp [Value.ownBlock] at hk
  · have hkg : g = k := by simpa [Value.ownBlock] using hk
    subst hkg
    exact ⟨hg, cur, hh⟩
set_option maxRecDepth 100000 in
set_option maxHeartbeats 4000000 in
theorem all_c (A : Option Addr) (n c : Nat) (d : List Sp) (g : Nat) (w : World) (hg : Row w g #[.slice A n c]) (hr : Kd.C k33 w A n d) (h32 : n ≤ 64) :
    Calls Try.prog 15 #[.pointer (some ⟨g, 0, none⟩)] w fun en w' => ∃ A' c', en = .returned (.slice A' d.length c') ∧ d.length ≤ c' ∧ Kd.C k33 w' A' d.length d ∧ Below w.heap.size w w' := by
  obtain ⟨i0, hi, hz0, hz1, hz2⟩ := info_parts infoL
  refine calls_of_wide ?_
  refine callsIn_of_wp_marks Try.func15 rfl trivial ?_ rfl
  simp only [Try.ntmps15, List.size_toArray, List.length_cons, List.length_nil, Nat.reduceAdd, Nat.reduceSub, Array.replicate_succ, Array.replicate_zero, List.push_toArray, List.append_toArray, List.nil_append, List.cons_append]
  have lg := hg.lt
  have hn : d.length = n := Kd.C_len hr
  have hA : ∀ ad, A = some ad → 0 < n → ad.block < w.heap.size := by
    rintro ad rfl h0
    exact Kd.C_lt hr h0 (by decide)
  gi_wp2_with fail
  refine (in_of_calls (Spans_c g _)).mono ?_
  rintro en W9 ⟨rfl, rfl⟩
  have hB1 : Below w.heap.size w (w.alloc (.cells #[.slice none 0 0] 22)) := (Below.refl _ w).alloc (Nat.le_refl _) _
  have b1 : Boxed (w.alloc (.cells #[.slice none 0 0] 22)) w.heap.size 22 (.slice none 0 0) := Boxed.new w _ _
  have hs1 : (w.alloc (.cells #[.slice none 0 0] 22)).heap.size = w.heap.size + 1 := by simp
  generalize w.alloc (.cells #[.slice none 0 0] 22) = W1 at *
  have hsz1 : w.heap.size < W1.heap.size := by omega
  have hb2 : Below w.heap.size w (W1.alloc (.cells #[.pointer (some ⟨g, 0, none⟩)] 24)) := hB1.alloc (by omega) _
  have y1 : Boxed (W1.alloc (.cells #[.pointer (some ⟨g, 0, none⟩)] 24)) w.heap.size 22 (.slice none 0 0) := b1.alloc _
  have y5 : Row (W1.alloc (.cells #[.pointer (some ⟨g, 0, none⟩)] 24)) W1.heap.size #[.pointer (some ⟨g, 0, none⟩)] := Row.new W1 _ _
  have y7 : Row (W1.alloc (.cells #[.pointer (some ⟨g, 0, none⟩)] 24)) g #[.slice A n c] := hg.below hb2 lg
  have hs3 : (W1.alloc (.cells #[.pointer (some ⟨g, 0, none⟩)] 24)).heap.size = W1.heap.size + 1 := by simp
  have hrC := Kd.C_below hr hb2
  unfold SpansV
  generalize W1.alloc (.cells #[.pointer (some ⟨g, 0, none⟩)] 24) = W3 at *
  have hsz3 : W1.heap.size < W3.heap.size := by omega
  clear b1 hB1 hs1 hs3
  gi_wp2_with fail
  have hit : Iter NoCells Try.prog 35 #[.pointer (some ⟨W1.heap.size, 0, none⟩)] (fun x : Sp => #[.agg (ES x)]) (KeepC (CA w.heap.size W3.heap.size)) d W3 := by
    refine spans_iter NoCells (CA w.heap.size W3.heap.size) A n c d W1.heap.size g W3 ?_ ?_ ?_ y5 y7 hrC
    · rintro t (h | ⟨h, -⟩) <;> omega
    · rintro t (h | ⟨h, -⟩) <;> omega
    · intro ad e0 h0 o h
      have := hA ad e0 h0
      rcases h with h | ⟨h, -⟩ <;> omega
  refine wp_range (Pv := NoCells) (fun _ h => h) rfl (enters_of Try.func35 (by kernel_rfl) rfl) hit (Below.refl _ _)
    (fun h k => h.trans k) (fun W l o o' _ h1 h2 => KeepC.put W l o o' h1 h2) (fun _ => rfl)
    (IA w.heap.size W3.heap.size w) (fun _ _ _ => False)
    ?hI (fun _ => OwnP.const _ _ (fun _ => False))
    ?init ?round ?done ?stop
  case init => exact ⟨⟨_, y1, World.ownsRow_nil _ _ _ _⟩, hb2, Nat.le_refl _⟩
  case hI =>
    rintro pre W W' row ⟨⟨v, h1, h2⟩, h4, h5⟩ hgr hrow
    refine ⟨⟨v, h1.kept hgr (fun er => by have := (hrow _ er.symm).1; omega), h2.kept hgr ?_⟩, OwnP.below (β := Unit) _ (by omega) (by omega) () W W' row h4 hgr hrow, Nat.le_trans h5 hgr.size⟩
    cases hob : v.ownBlock with
    | none => exact .inl rfl
    | some k =>
      refine .inr (fun er => ?_)
      obtain ⟨h6, cur, h7⟩ := own_cells h2 k hob
      obtain ⟨-, o, h9, h10⟩ := hrow k er.symm
      rw [h7] at h9
      obtain rfl := Option.some.inj h9
      cases h10
  case round =>
    rintro l' pre x post W hx hl_ hlt ⟨⟨v, hb, hrow⟩, hB, hz⟩
    clear y1 y5 y7
    have m1 : ¬ w.heap.size = W.heap.size := by omega
    have m2 : ¬ W.heap.size = w.heap.size := by omega
    gi_wp2
    have hbn : Below W.heap.size W ((W.alloc (.cells (ES z33) 33)).setRow W.heap.size (ES x)) := below_setRow ((Below.refl _ W).alloc (Nat.le_refl _) _) (Nat.le_refl _) _
    have hI2 : IA w.heap.size W3.heap.size w pre ((W.alloc (.cells (ES z33) 33)).setRow W.heap.size (ES x)) := by
      refine ⟨⟨v, (hbn.block _ hb.lt).trans hb, hrow.kept (row := none) ⟨hbn.os, hbn.tape, hbn.output, hbn.size, fun k hk _ => hbn.block k hk⟩ ?_⟩, bk hB hB.size hbn, Nat.le_trans hz hbn.size⟩
      cases hob : v.ownBlock with
      | none => exact .inl rfl
      | some k => exact .inr (by simp)
    refine ⟨KeepsFrom.low hbn, KeepC.low hbn, hI2, ?_⟩
    have r7 : Row ((W.alloc (.cells (ES z33) 33)).setRow W.heap.size (ES x)) W.heap.size (ES x) := Row.setRow isRow_new
    rintro W2 hg2 ⟨⟨v, hb, hrow⟩, hB, hz⟩
    obtain ⟨d7, d7'⟩ := Row.kept r7 hg2 (by intro er; cases er; omega)
    have hle : pre.length + 1 ≤ 64 := by
      have h := congrArg List.length hx
      simp at h
      omega
    have hd : decide ((100 : Int) < (pre.length : Int) + 1) = false := decide_eq_false (by omega)
    clear hx hl_ hlt hg2 hI2 hbn r7
    have hc := hb.cell
    have HBG := Lib.hid (own_cells hrow)
    gi_wp2_with (gi_at_builtin; refine wpListIn_append_own _ rfl _ _ 22 rfl W3.heap.size 33 i0 (.agg (ES z33)) 4 32 Try.underlying22 hi hz0 hz1 hz2 rfl (by decide) _ _ _ rfl (hrow.alloc _) ⟨W2.heap.size, 0, none⟩ 1 1 (EL' x) rfl rfl (cell_four_new _ _ _) (by simp [EL', Value.oneCell']) (by unfold maxLen; omega) (by omega) (by simp; omega) ?_; intro v' w1 hown' hgrow _; obtain ⟨g', cap', rfl⟩ := ownsRow_succ hown'; obtain ⟨hv1, hv2, hr2, hk2, hb2, hs2⟩ := box_append hb (by decide) hrow hown' hgrow; have hc1 := hv1.cell; have hf1 := hv1.frozen; have hc2 := hv2.cell)
    have hKc : KeepC (CA w.heap.size W3.heap.size) W2 (w1.setCell ⟨w.heap.size, 0, none⟩ (Value.slice (some { block := g', off := 0 }) (pre.length + 1) cap')) := by
      refine ⟨hk2.size, fun k o hc hk ho => ?_⟩
      have hkl := (Array.getElem?_eq_some_iff.1 hk).1
      refine (Below.heap_setCell _ _ _ k (fun er => hc (.inl er))).trans ((hgrow.block k (by simp; omega) (fun er => ?_)).trans ((Below.heap_alloc _ _ _ hkl).trans hk))
      obtain ⟨h6, cur, h7⟩ := HBG.out k er.symm
      rw [h7] at hk
      exact hc (.inr ⟨h6, cur, (Option.some.inj hk).symm⟩)
    refine ⟨hk2.from _, hKc, ⟨⟨_, hv2, ?_⟩, hB.trans (hb2 _ (by omega) (by omega) (by omega)), Nat.le_trans hz hKc.size⟩⟩
    rw [flE_snoc, List.length_append]
    exact hr2
  case done =>
    rintro D W hD2 ⟨⟨v, hb, hrow⟩, hB, hz⟩ hK
    have hc := hb.cell
    obtain ⟨A', c', hv, hc', hC⟩ := own_kd (ownsRow_putObj hrow _ hK rfl) (by omega)
    have HV := Lib.hid hv
    clear hv
    gi_wp2
    exact leave_mark hK (v := v) (by simp [results, Try.results15, go_sem]) ⟨A', c', by rw [HV.out], hc', hC, below_putD hB (by omega) _⟩
  case stop =>
    rintro D cd pre x post W _ _ h _
    exact h.elim
end Go.Proofs.Ytjkbocejdjnfiaa.Bs
