/- What the law collects of what is free, and of a bus's spans. -/
import Derived.Test.YtjkbocejdjnfiaaB6
namespace Go.Proofs.Ytjkbocejdjnfiaa.Bs
open Go.RowKit Go.Shelf Go.Proofs.Ytjkbocejdjnfiaa.IAll Go.Proofs.YtjkbocejdjnfiaaW.PrintWords Go.Proofs.YtjkbocejdjnfiaaW.PrintLast Go.Proofs.YtjkbocejdjnfiaaW.PrintMore
attribute [local go_sem] Oper.semAt_some cell_row frozen_row isRow_setCell_eq rowAt_setCell_same rowAt_setCell_other isRow_alloc_eq rowAt_alloc rowAt_new rowAt_new' isRow_setRow_eq rowAt_setRow_same rowAt_setRow_other isRow_drew rowAt_drew size_setRow_ size_drew_ blk_ptr aggOf_agg below_alloc_e below_setCell_e below_setRow_e below_refl_e below_drew_r isRow_drewN rowAt_drewN below_drewN_e le_add_r asideP_alloc_e asideP_setCell_e asideP_setRow_e asideP_drew_e asideP_drewN_e asideP_refl_e cell_setRow_far cell_setCell_far cell_drew_ heap_setCell_far heap_setRow_far heap_drew_ ES_size ES_one ES_fold ES_0 ES_1 allOne_nil allOne_cons Value.oneCell'
attribute [local go_sem ↓] loadS storeS loadSg storeSg
theorem fold_len {e : Int} : ∀ (d : List Sp) (a : List (Int × Int) × Int), (d.foldl (stp e) a).1.length ≤ a.1.length + d.length
  | [], a => by simp
  | x :: r, a => by
    have h := fold_len (e := e) r (stp e a x)
    have h2 : (stp e a x).1.length ≤ a.1.length + 1 := by
      rw [stp, List.length_append]
      split <;> simp
    rw [List.foldl_cons, List.length_cons]
    omega
theorem fr_len (e : Int) (d : List Sp) : (fr e d).length ≤ d.length + 1 := by
  have h := fold_len (e := e) d ([], 0)
  have h2 : (frp e d).1.length ≤ d.length := by unfold frp; simpa using h
  rw [fr, List.length_append]
  split
  · simp; omega
  · simp; omega
def flI (l : List (Int × Int)) : List Int := l.flatMap fun p => [p.1, p.2]
theorem flI_snoc (l : List (Int × Int)) (p : Int × Int) : flI (l ++ [p]) = flI l ++ [p.1, p.2] := by simp [flI]
theorem flI_len (l : List (Int × Int)) : (flI l).length = 2 * l.length := by
  unfold flI
  induction l with
  | nil => rfl
  | cons x r ih => rw [List.flatMap_cons, List.length_append, ih, List.length_cons]; simp; omega
theorem cell_two_new (w : World) (x y : Value) (t : TypeId) : ∀ j u, [x, y][j]? = some u → (w.alloc (.cells #[x, y] t)).cell? ((⟨w.heap.size, 0, none⟩ : Addr).add j) = some u := by
  intro j u hj
  rw [addr_at, cell_row (isRow_new), rowAt_new]
  simpa using hj
/-- 'out' of two cells or more, or nil -/
def PvI (o : Obj) : Prop := o.isCells = false ∨ ∃ v, o = .cells #[v] 3
def CI (a b k : Nat) (o : Obj) : Prop := k = a ∨ (b ≤ k ∧ ∃ cur, o = .cells cur 3 ∧ 2 ≤ cur.size)
/-- what the loop has collected -/
def II (a b : Nat) (w : World) (pre : List (Int × Int)) (W : World) : Prop := (∃ v, Boxed W a 43 v ∧ W.ownsRow b 3 1 v (2 * pre.length) ((flI pre).map (Value.int .i64)) ∧ (pre = [] → v = .slice none 0 0)) ∧ Below w.heap.size w W ∧ b ≤ W.heap.size
theorem own_big {W : World} {b m : Nat} {v : Value} {xs : List Value} (h : W.ownsRow b 3 1 v (2 * m) xs) (h0 : m = 0 → v = .slice none 0 0) : ∀ k, v.ownBlock = some k → b ≤ k ∧ ∃ cur, W.heap[k]? = some (.cells cur 3 (0, 0)) ∧ 2 ≤ cur.size := by
  intro k hk
  rcases h.2 with ⟨rfl, -⟩ | ⟨g, cap, cur, rfl, hg, hh, hcap, hmax, hcs, htk⟩
  · simp [Value.ownBlock] at hk
  · have hkg : g = k := by simpa [Value.ownBlock] using hk
    subst hkg
    refine ⟨hg, cur, hh, ?_⟩
    rcases Nat.eq_zero_or_pos m with h1 | h1
    · have := h0 h1; cases this
    · omega
set_option maxRecDepth 100000 in
set_option maxHeartbeats 4000000 in
theorem free_c (A : Option Addr) (n c : Nat) (d : List Sp) (g : Nat) (e : Int) (w : World) (hg : Row w g #[.slice A n c]) (hr : Kd.C k33 w A n d) (hD : ∀ s ∈ d, Rgt s) (h32 : n ≤ 64) (he : e ≤ 9223372036854775807) :
    Calls Try.prog 19 #[.pointer (some ⟨g, 0, none⟩), .int .i64 e] w fun en w' => ∃ v, en = .returned v ∧ w'.ownsRow w.heap.size 3 1 v (2 * (fr e d).length) ((flI (fr e d)).map (Value.int .i64)) ∧ Below w.heap.size w w' := by
  obtain ⟨i0, hi, hz0, hz1, hz2⟩ := info_parts info3
  refine calls_of_wide ?_
  refine callsIn_of_wp_marks Try.func19 rfl trivial ?_ rfl
  simp only [Try.ntmps19, List.size_toArray, List.length_cons, List.length_nil, Nat.reduceAdd, Nat.reduceSub, Array.replicate_succ, Array.replicate_zero, List.push_toArray, List.append_toArray, List.nil_append, List.cons_append]
  have lg := hg.lt
  have hn : d.length = n := Kd.C_len hr
  have hA : ∀ ad, A = some ad → 0 < n → ad.block < w.heap.size := by
    rintro ad rfl h0
    exact Kd.C_lt hr h0 (by decide)
  gi_wp2_with fail
  refine (in_of_calls (Free_c g e _)).mono ?_
  rintro en W9 ⟨rfl, rfl⟩
  have hB1 : Below w.heap.size w (w.alloc (.cells #[.slice none 0 0] 43)) := (Below.refl _ w).alloc (Nat.le_refl _) _
  have b1 : Boxed (w.alloc (.cells #[.slice none 0 0] 43)) w.heap.size 43 (.slice none 0 0) := Boxed.new w _ _
  have hs1 : (w.alloc (.cells #[.slice none 0 0] 43)).heap.size = w.heap.size + 1 := by simp
  generalize w.alloc (.cells #[.slice none 0 0] 43) = W1 at *
  have hsz1 : w.heap.size < W1.heap.size := by omega
  have hb2 : Below w.heap.size w ((W1.alloc (.cells #[.pointer (some ⟨g, 0, none⟩)] 24)).alloc (.cells #[.int .i64 e] 3)) := (hB1.alloc (by omega) _).alloc (by simp; omega) _
  have y1 : Boxed ((W1.alloc (.cells #[.pointer (some ⟨g, 0, none⟩)] 24)).alloc (.cells #[.int .i64 e] 3)) w.heap.size 43 (.slice none 0 0) := (b1.alloc _).alloc _
  have y5 : Row ((W1.alloc (.cells #[.pointer (some ⟨g, 0, none⟩)] 24)).alloc (.cells #[.int .i64 e] 3)) W1.heap.size #[.pointer (some ⟨g, 0, none⟩)] := row_alloc (Row.new W1 _ _)
  have y6 : Row ((W1.alloc (.cells #[.pointer (some ⟨g, 0, none⟩)] 24)).alloc (.cells #[.int .i64 e] 3)) (W1.heap.size + 1) #[.int .i64 e] := by have := Row.new (W1.alloc (.cells #[.pointer (some ⟨g, 0, none⟩)] 24)) 3 #[.int .i64 e]; rwa [World.size_alloc] at this
  have y7 : Row ((W1.alloc (.cells #[.pointer (some ⟨g, 0, none⟩)] 24)).alloc (.cells #[.int .i64 e] 3)) g #[.slice A n c] := hg.below hb2 lg
  have hs3 : ((W1.alloc (.cells #[.pointer (some ⟨g, 0, none⟩)] 24)).alloc (.cells #[.int .i64 e] 3)).heap.size = W1.heap.size + 2 := by simp
  have hrC := Kd.C_below hr hb2
  unfold FreeV
  generalize (W1.alloc (.cells #[.pointer (some ⟨g, 0, none⟩)] 24)).alloc (.cells #[.int .i64 e] 3) = W3 at *
  have hsz3 : W1.heap.size + 1 < W3.heap.size := by omega
  clear b1 hB1 hs1 hs3
  gi_wp2_with fail
  have hit : Iter PvI Try.prog 36 #[.pointer (some ⟨W1.heap.size, 0, none⟩), .pointer (some ⟨W1.heap.size + 1, 0, none⟩)] (fun x : Int × Int => #[.int .i64 x.1, .int .i64 x.2]) (KeepC (CI w.heap.size W3.heap.size)) (fr e d) W3 := by
    refine free_iter PvI (fun _ h => .inl h) (fun v => .inr ⟨v, rfl⟩) (CI w.heap.size W3.heap.size) A n c d e W1.heap.size (W1.heap.size + 1) g W3 ?_ ?_ ?_ ?_ ?_ ?_ y5 y6 y7 hrC hD he
    · rintro k v t hk (h | ⟨-, cur, h, h2⟩)
      · omega
      · injection h with h3 h4 h5
        rw [← h3] at h2
        simp at h2
    · rintro k x hk (h | ⟨-, cur, h, -⟩)
      · omega
      · injection h with h3 h4 h5
        exact absurd h4 (by decide)
    · rintro o (h | ⟨h, -⟩) <;> omega
    · rintro o (h | ⟨h, -⟩) <;> omega
    · rintro o (h | ⟨h, -⟩) <;> omega
    · intro ad e0 h0 o h
      have := hA ad e0 h0
      rcases h with h | ⟨h, -⟩ <;> omega
  refine wp_range (Pv := PvI) (fun _ h => .inl h) rfl (enters_of Try.func36 (by kernel_rfl) rfl) hit (Below.refl _ _)
    (fun h k => h.trans k) (fun W l o o' _ h1 h2 => KeepC.put W l o o' h1 h2) (fun _ => rfl)
    (II w.heap.size W3.heap.size w) (fun _ _ _ => False)
    ?hI (fun _ => OwnP.const _ _ (fun _ => False))
    ?init ?round ?done ?stop
  case init => exact ⟨⟨_, y1, World.ownsRow_nil _ _ _ _, fun _ => rfl⟩, hb2, Nat.le_refl _⟩
  case hI =>
    rintro pre W W' row ⟨⟨v, h1, h2, h3⟩, h4, h5⟩ hgr hrow
    refine ⟨⟨v, h1.kept hgr (fun er => by have := (hrow _ er.symm).1; omega), h2.kept hgr ?_, h3⟩, OwnP.below (β := Unit) _ (by omega) (by omega) () W W' row h4 hgr hrow, Nat.le_trans h5 hgr.size⟩
    cases hob : v.ownBlock with
    | none => exact .inl rfl
    | some k =>
      refine .inr (fun er => ?_)
      obtain ⟨h6, cur, h7, h8⟩ := own_big (m := pre.length) h2 (fun h => h3 (List.length_eq_zero_iff.1 h)) k hob
      obtain ⟨-, o, h9, h10⟩ := hrow k er.symm
      rw [h7] at h9
      obtain rfl := Option.some.inj h9
      rcases h10 with h10 | ⟨v', h10⟩
      · cases h10
      · injection h10 with h11 h12 h13
        rw [h11] at h8
        simp at h8
  case round =>
    rintro l' pre x post W hx hl_ hlt ⟨⟨v, hb, hrow, hnil⟩, hB, hz⟩
    clear y1 y5 y6 y7
    gi_wp2
    refine ⟨KeepsFrom.refl _ _, KeepC.refl _ _, ⟨⟨v, hb, hrow, hnil⟩, hB, hz⟩, ?_⟩
    clear hb hrow hB hnil hz
    rintro W2 hg2 ⟨⟨v, hb, hrow, hnil⟩, hB, hz⟩
    have hle : pre.length + 1 ≤ 65 := by
      have h := fr_len e d
      rw [hx] at h; simp at h; omega
    have hd : decide ((200 : Int) < 2 * (pre.length : Int) + 2) = false := decide_eq_false (by omega)
    have hd2 : decide ((200 : Int) < ((2 * pre.length + 2 : Nat) : Int)) = false := decide_eq_false (by omega)
    clear hx hl_ hlt hg2
    have hc := hb.cell
    have hbig := own_big (m := pre.length) hrow (fun h => hnil (List.length_eq_zero_iff.1 h))
    have HBG := Lib.hid hbig
    clear hbig hnil
    gi_wp2_with (gi_at_builtin; refine wpListIn_append_own _ rfl _ _ 43 rfl W3.heap.size 3 i0 (.int .i64 0) 1 8 Try.underlying43 hi hz0 hz1 hz2 rfl (by decide) _ _ _ rfl (hrow.alloc _) ⟨W2.heap.size, 0, none⟩ 2 2 [.int .i64 x.1, .int .i64 x.2] rfl rfl (cell_two_new _ _ _ _) (by simp [Value.oneCell']) (by unfold maxLen; omega) (by omega) (by simp; omega) ?_; intro v' w1 hown' hgrow _; obtain ⟨g', cap', rfl⟩ := ownsRow_succ hown'; obtain ⟨hv1, hv2, hr2, hk2, hb2, hs2⟩ := box_append hb (by decide) hrow hown' hgrow; have hc1 := hv1.cell; have hf1 := hv1.frozen; have hc2 := hv2.cell)
    have hKc : KeepC (CI w.heap.size W3.heap.size) W2 (w1.setCell ⟨w.heap.size, 0, none⟩ (Value.slice (some { block := g', off := 0 }) (2 * pre.length + 1 + 1) cap')) := by
      refine ⟨hk2.size, fun k o hc hk ho => ?_⟩
      have hkl := (Array.getElem?_eq_some_iff.1 hk).1
      refine (Below.heap_setCell _ _ _ k (fun er => hc (.inl er))).trans ((hgrow.block k (by simp; omega) (fun er => ?_)).trans ((Below.heap_alloc _ _ _ hkl).trans hk))
      obtain ⟨h6, cur, h7, h8⟩ := HBG.out k er.symm
      rw [h7] at hk
      exact hc (.inr ⟨h6, cur, (Option.some.inj hk).symm, h8⟩)
    refine ⟨hk2.from _, hKc, ⟨⟨_, hv2, ?_, fun h => by simp at h⟩, hB.trans (hb2 _ (by omega) (by omega) (by omega)), Nat.le_trans hz hKc.size⟩⟩
    rw [flI_snoc, List.map_append, List.length_append]
    exact hr2
  case done =>
    rintro D W hD2 ⟨⟨v, hb, hrow, -⟩, hB, hz⟩ hK
    have hc := hb.cell
    gi_wp2
    refine leave_mark hK (v := v) (by simp [results, Try.results19, go_sem]) ⟨v, rfl, ownsRow_lower (ownsRow_putObj hrow _ hK rfl) (by omega), below_putD hB (by omega) _⟩
  case stop =>
    rintro D cd pre x post W _ _ h _
    exact h.elim
end Go.Proofs.Ytjkbocejdjnfiaa.Bs
