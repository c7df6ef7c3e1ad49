/- The iterator over what is free. -/
import Derived.Test.YtjkbocejdjnfiaaB4
namespace Go.Proofs.Ytjkbocejdjnfiaa.Bs
open Go.RowKit Go.Shelf Go.Proofs.Ytjkbocejdjnfiaa.IAll Go.Proofs.YtjkbocejdjnfiaaW.PrintWords Go.Proofs.YtjkbocejdjnfiaaW.PrintLast Go.Proofs.YtjkbocejdjnfiaaW.PrintMore
attribute [local go_sem] Oper.semAt_some cell_row frozen_row isRow_setCell_eq rowAt_setCell_same rowAt_setCell_other isRow_alloc_eq rowAt_alloc rowAt_new rowAt_new' isRow_setRow_eq rowAt_setRow_same rowAt_setRow_other isRow_drew rowAt_drew size_setRow_ size_drew_ blk_ptr aggOf_agg below_alloc_e below_setCell_e below_setRow_e below_refl_e below_drew_r isRow_drewN rowAt_drewN below_drewN_e le_add_r asideP_alloc_e asideP_setCell_e asideP_setRow_e asideP_drew_e asideP_drewN_e asideP_refl_e cell_setRow_far cell_setCell_far cell_drew_ heap_setCell_far heap_setRow_far heap_drew_ ES_size ES_one ES_fold ES_0 ES_1 allOne_nil allOne_cons Value.oneCell'
attribute [local go_sem ↓] loadS storeS loadSg storeSg
def stp (e : Int) (a : List (Int × Int) × Int) (x : Sp) : List (Int × Int) × Int := (a.1 ++ (if a.2 < x.f0 ∧ a.2 < e then [(a.2, min e x.f0 - a.2)] else []), x.f0 + x.f1)
/-- what is free ahead of the last one's end, and that end -/
def frp (e : Int) (l : List Sp) : List (Int × Int) × Int := l.foldl (stp e) ([], 0)
theorem frp_snoc (e : Int) (l : List Sp) (x : Sp) : frp e (l ++ [x]) = stp e (frp e l) x := by simp [frp]
theorem frp_pre (e : Int) : ∀ (post : List Sp) (a : List (Int × Int) × Int), ∃ q, (post.foldl (stp e) a).1 = a.1 ++ q
  | [], a => ⟨[], by simp⟩
  | x :: r, a => by
    obtain ⟨q, h⟩ := frp_pre e r (stp e a x)
    exact ⟨_, by rw [List.foldl_cons, h, stp, List.append_assoc]⟩
/-- what is free -/
def fr (e : Int) (d : List Sp) : List (Int × Int) := (frp e d).1 ++ (if (frp e d).2 < e then [((frp e d).2, e - (frp e d).2)] else [])
theorem fr_hit {e : Int} {pre post : List Sp} {x : Sp} (h : (frp e pre).2 < x.f0 ∧ (frp e pre).2 < e) : ∃ q, fr e (pre ++ x :: post) = (frp e pre).1 ++ ((frp e pre).2, min e x.f0 - (frp e pre).2) :: q := by
  obtain ⟨q, hq⟩ := frp_pre e post (stp e (frp e pre) x)
  have h1 : frp e (pre ++ x :: post) = post.foldl (stp e) (stp e (frp e pre) x) := by simp [frp]
  rw [fr, h1, hq, stp, if_pos h]
  exact ⟨_, by simp only [List.append_assoc]; rfl⟩
theorem frp_at {e : Int} {d : List Sp} (hD : ∀ s ∈ d, Rgt s) : 0 ≤ (frp e d).2 ∧ (frp e d).2 ≤ TOP := by
  rcases List.eq_nil_or_concat d with h | ⟨l, x, h⟩
  · subst h
    exact ⟨Int.le_refl 0, show (0 : Int) ≤ TOP by decide⟩
  · rw [List.concat_eq_append] at h
    subst h
    rw [frp_snoc]
    obtain ⟨h0, h1, h2⟩ := hD x (by simp)
    exact ⟨by show 0 ≤ x.f0 + x.f1; omega, h2⟩
def FreeV (w : World) : Value := .func (.func 36) #[] #[.pointer (some ⟨w.heap.size, 0, none⟩), .pointer (some ⟨w.heap.size + 1, 0, none⟩)]
theorem Free_c (g : Nat) (e : Int) (w : World) : Calls Try.prog 31 #[.pointer (some ⟨g, 0, none⟩), .int .i64 e] w fun en w' => en = .returned (FreeV w) ∧ (w.alloc (.cells #[.pointer (some ⟨g, 0, none⟩)] 24)).alloc (.cells #[.int .i64 e] 3) = w' := by
  go_enter Try.func31, Try.ntmps31
  go_wp2
  go_ret
  exact ⟨rfl, rfl⟩
theorem row_alloc {W : World} {o : Obj} {g : Nat} {cs : Array Value} (h : Row W g cs) : Row (W.alloc o) g cs := ⟨isRow_alloc h.1, (rowAt_alloc h.1).trans h.2⟩
set_option maxRecDepth 100000 in
set_option maxHeartbeats 4000000 in
theorem free_iter (Pv : Obj → Prop) (hPv1 : ∀ o : Obj, o.isCells = false → Pv o) (hPv2 : ∀ v, Pv (.cells #[v] 3)) (C : Nat → Obj → Prop) (A : Option Addr) (n c : Nat) (d : List Sp) (e : Int) (Bb Be g : Nat) (W0 : World) (hC1 : ∀ k v t, W0.heap.size ≤ k → ¬ C k (.cells #[v] t (0, 0))) (hCs : ∀ k x, W0.heap.size ≤ k → ¬ C k (.cells (ES x) 33)) (hB : ∀ o, ¬ C Bb o) (hE : ∀ o, ¬ C Be o) (hg : ∀ o, ¬ C g o) (hA : ∀ ad, A = some ad → 0 < n → ∀ o, ¬ C ad.block o)
    (hr1 : Row W0 Bb #[.pointer (some ⟨g, 0, none⟩)]) (hre : Row W0 Be #[.int .i64 e]) (hr2 : Row W0 g #[.slice A n c]) (hr : Kd.C k33 W0 A n d) (hD : ∀ s ∈ d, Rgt s) (he : e ≤ 9223372036854775807) :
    Iter Pv Try.prog 36 #[.pointer (some ⟨Bb, 0, none⟩), .pointer (some ⟨Be, 0, none⟩)] (fun x : Int × Int => #[.int .i64 x.1, .int .i64 x.2]) (KeepC C) (fr e d) W0 := by
  intro ln J Jx W hW hJ hJx hY h0
  have hK0 : KeepC C W0 W := KeepC.low hW
  have a1 := hK0.row (fun t => hB _) hr1
  have a2 := hK0.row (fun t => hE _) hre
  have a3 := hK0.row (fun t => hg _) hr2
  have hrW : Kd.C k33 W A n d := Kd.C_below hr hW
  have hAW : ∀ ad, A = some ad → 0 < n → ad.block < W.heap.size := by
    rintro ad rfl hn
    exact Kd.C_lt hrW hn (by decide)
  have hWz := hW.size
  have l1 := a1.lt
  have l2 := a2.lt
  have l3 := a3.lt
  clear hr hr1 hre hr2 hK0
  refine callsIn_of_wp_marks Try.func36 rfl trivial ?_ rfl
  simp only [Try.ntmps36, List.size_toArray, List.length_cons, List.length_nil, Nat.reduceAdd, Nat.reduceSub, Array.replicate_succ, Array.replicate_zero, List.push_toArray, List.append_toArray, List.nil_append, List.cons_append]
  have pa0_1 : ¬ Bb = W.heap.size := by omega
  have pa1_0 : ¬ W.heap.size = Bb := by omega
  have pb0_1 : ¬ Be = W.heap.size := by omega
  have pb1_0 : ¬ W.heap.size = Be := by omega
  have pc0_1 : ¬ Bb = W.heap.size + 1 := by omega
  have pc1_0 : ¬ W.heap.size + 1 = Bb := by omega
  have pd0_1 : ¬ Be = W.heap.size + 1 := by omega
  have pd1_0 : ¬ W.heap.size + 1 = Be := by omega
  obtain ⟨a1, a1'⟩ := a1
  obtain ⟨a2, a2'⟩ := a2
  gi_wp2_with fail
  refine (in_of_calls (Spans_c g _)).mono ?_
  rintro en W9 ⟨rfl, rfl⟩
  have y1 : Row ((((W.alloc (.cells #[.func (.yield ln) #[] #[]] 68)).alloc (.cells #[.int .i64 0] 3))).alloc (.cells #[.pointer (some ⟨g, 0, none⟩)] 24)) W.heap.size #[.func (.yield ln) #[] #[]] := ⟨by go_simp, by go_simp⟩
  have y2 : Boxed ((((W.alloc (.cells #[.func (.yield ln) #[] #[]] 68)).alloc (.cells #[.int .i64 0] 3))).alloc (.cells #[.pointer (some ⟨g, 0, none⟩)] 24)) (W.heap.size + 1) 3 (.int .i64 0) := by
    have := (Boxed.new (W.alloc (.cells #[.func (.yield ln) #[] #[]] 68)) 3 (.int .i64 0)).alloc (.cells #[.pointer (some ⟨g, 0, none⟩)] 24)
    rwa [World.size_alloc] at this
  have y3 : Row ((((W.alloc (.cells #[.func (.yield ln) #[] #[]] 68)).alloc (.cells #[.int .i64 0] 3))).alloc (.cells #[.pointer (some ⟨g, 0, none⟩)] 24)) (W.heap.size + 2) #[.pointer (some ⟨g, 0, none⟩)] := ⟨by go_simp, by go_simp⟩
  have y4 : Row ((((W.alloc (.cells #[.func (.yield ln) #[] #[]] 68)).alloc (.cells #[.int .i64 0] 3))).alloc (.cells #[.pointer (some ⟨g, 0, none⟩)] 24)) Be #[.int .i64 e] := row_alloc (row_alloc (row_alloc ⟨a2, a2'⟩))
  have y5 : Row ((((W.alloc (.cells #[.func (.yield ln) #[] #[]] 68)).alloc (.cells #[.int .i64 0] 3))).alloc (.cells #[.pointer (some ⟨g, 0, none⟩)] 24)) g #[.slice A n c] := row_alloc (row_alloc (row_alloc a3))
  have hb1 : Below W.heap.size W ((((W.alloc (.cells #[.func (.yield ln) #[] #[]] 68)).alloc (.cells #[.int .i64 0] 3))).alloc (.cells #[.pointer (some ⟨g, 0, none⟩)] 24)) := (((Below.refl _ W).alloc (Nat.le_refl _) _).alloc (by simp) _).alloc (by simp; omega) _
  have hs1 : ((((W.alloc (.cells #[.func (.yield ln) #[] #[]] 68)).alloc (.cells #[.int .i64 0] 3))).alloc (.cells #[.pointer (some ⟨g, 0, none⟩)] 24)).heap.size = W.heap.size + 3 := by simp
  have hs0 : ((W.alloc (.cells #[.func (.yield ln) #[] #[]] 68)).alloc (.cells #[.int .i64 0] 3)).heap.size = W.heap.size + 2 := by simp
  have hj1 := OwnP.under hJ h0 hb1
  have hrC := Kd.C_below hrW hb1
  unfold SpansV
  rw [hs0]
  generalize (((W.alloc (.cells #[.func (.yield ln) #[] #[]] 68)).alloc (.cells #[.int .i64 0] 3))).alloc (.cells #[.pointer (some ⟨g, 0, none⟩)] 24) = W1 at *
  clear a1 a1' a2 a2' a3 h0 hb1 hrW hs0
  gi_wp2_with fail
  refine wp_range (Pv := Pv) hPv1 rfl (enters_of Try.func35 (by kernel_rfl) rfl) (spans_iter Pv (fun k o => C k o ∨ k = W.heap.size + 1) A n c d (W.heap.size + 2) g W1 (by rintro t (h | h); exact hC1 _ _ t (by omega) h; omega) (by rintro t (h | h); exact hg _ h; omega) (fun ad e0 h => by rintro o (h2 | h2); exact hA ad e0 h o h2; have := hAW ad e0 h; omega) y3 y5 hrC) (Below.refl _ _)
    (fun h k => h.trans k) (fun W l o o' _ h1 h2 => KeepC.put W l o o' h1 h2) (fun _ => rfl)
    (fun pre X => J (frp e pre).1 X ∧ Row X W.heap.size #[.func (.yield ln) #[] #[]] ∧ Boxed X (W.heap.size + 1) 3 (.int .i64 (frp e pre).2) ∧ Row X Be #[.int .i64 e] ∧ KeepC (fun k o => C k o ∨ k = W.heap.size + 1) W1 X ∧ W1.heap.size ≤ X.heap.size)
    (fun cd pre X => cd = .ret ∧ ∃ p x, pre = p ++ [x] ∧ ((frp e p).2 < x.f0 ∧ (frp e p).2 < e) ∧ Jx ((frp e p).1 ++ [((frp e p).2, min e x.f0 - (frp e p).2)]) X)
    ?hI ?hIx ⟨hj1, y1, y2, y4, KeepC.refl _ _, Nat.le_refl _⟩ ?round ?done ?stop
  case hI =>
    rintro pre X X' row ⟨h1, h2, h3, h4, h5, h6⟩ hgr hrow
    have hrow' : ∀ r, row = some r → W.heap.size ≤ r ∧ ∃ o : Obj, X.heap[r]? = some o ∧ Pv o := fun r er => ⟨by have := (hrow r er).1; omega, (hrow r er).2⟩
    exact ⟨hJ _ X X' row h1 hgr hrow', OwnP.row (β := Unit) _ (by omega) (fun _ => #[.func (.yield ln) #[] #[]]) () X X' row h2 hgr hrow, OwnP.box (β := Unit) Pv (b := W.heap.size + 1) (by omega) 3 (fun _ => .int .i64 (frp e pre).2) () X X' row h3 hgr hrow, OwnP.row (β := Unit) _ (by omega) (fun _ => #[.int .i64 e]) () X X' row h4 hgr hrow, ⟨Nat.le_trans h5.size hgr.size, fun k o hc hk ho => (hgr.block k (by have := (Array.getElem?_eq_some_iff.1 hk).1; omega) (fun er => by have := (hrow k er.symm).1; have := (Array.getElem?_eq_some_iff.1 hk).1; omega)).trans (h5.same k o hc hk ho)⟩, Nat.le_trans h6 hgr.size⟩
  case hIx =>
    rintro cd pre X X' row ⟨h1, p, x, h2, h3, h4⟩ hgr hrow
    exact ⟨h1, p, x, h2, h3, hJx _ X X' row h4 hgr (fun r er => ⟨by have := (hrow r er).1; omega, (hrow r er).2⟩)⟩
  case round =>
    rintro l2 pre x post X hx hl2 hlt2 ⟨hj, ⟨c1, c1'⟩, hb2, ⟨c3, c3'⟩, hk, hz⟩
    obtain ⟨c2, c2'⟩ : Row X (W.heap.size + 1) #[.int .i64 (frp e pre).2] := Row.of (t := 3) hb2
    obtain ⟨z0, z1, z2⟩ := hD x (by rw [hx]; simp)
    obtain ⟨t0, t1⟩ := frp_at (e := e) (d := pre) (fun s hs => hD s (by rw [hx]; simp [hs]))
    unfold TOP at z2 t1
    clear hj1 y1 y2 y3 y4 y5 hrC
    have m0 : ¬ W.heap.size = X.heap.size := by omega
    have n0 : ¬ X.heap.size = W.heap.size := by omega
    have m1 : ¬ W.heap.size + 1 = X.heap.size := by omega
    have n1 : ¬ X.heap.size = W.heap.size + 1 := by omega
    have m2 : ¬ Be = X.heap.size := by omega
    have n2 : ¬ X.heap.size = Be := by omega
    gi_wp2
    have hbn : Below X.heap.size X ((X.alloc (.cells #[.int .i64 0, .int .i64 0, .int .i64 0, .int .i64 0] 33)).setRow X.heap.size (ES x)) := below_setRow ((Below.refl _ X).alloc (Nat.le_refl _) _) (Nat.le_refl _) _
    refine ⟨KeepsFrom.low hbn, KeepC.low hbn, ⟨OwnP.under hJ hj hbn, ⟨by go_simp, by go_simp⟩, (hbn.block _ hb2.lt).trans hb2, ⟨by go_simp, by go_simp⟩, hk.trans (KeepC.low hbn), Nat.le_trans hz hbn.size⟩, ?_⟩
    have r7 : Row ((X.alloc (.cells #[.int .i64 0, .int .i64 0, .int .i64 0, .int .i64 0] 33)).setRow X.heap.size (ES x)) X.heap.size (ES x) := Row.setRow isRow_new
    rintro X2 hg2 ⟨hj, ⟨d1, d1'⟩, hb3, ⟨d3, d3'⟩, hk, hz⟩
    obtain ⟨d2, d2'⟩ : Row X2 (W.heap.size + 1) #[.int .i64 (frp e pre).2] := Row.of (t := 3) hb3
    have hx7 : BoxN X2 X.heap.size 33 (ES x) := (hg2.block _ (by simp) (by intro er; cases er; omega)).trans (boxN_setRow (BoxN.new X 33 _) (ES x))
    obtain ⟨d7, d7'⟩ : Row X2 X.heap.size (ES x) := Row.of hx7
    clear hbn r7 c1 c1' c2 c2' c3 c3'
    have hws : IntKind.i64.wrap (x.f0 + x.f1) = x.f0 + x.f1 := IntWalk.i64_in _ (by omega)
    have hat : (frp e pre).2 = (frp e pre).2 := rfl
    by_cases hh : (frp e pre).2 < x.f0 ∧ (frp e pre).2 < e
    · obtain ⟨q, hq⟩ := fr_hit (e := e) (pre := pre) (post := post) (x := x) hh
      rw [← hx] at hq
      have HS := Lib.hid (show (frp e (pre ++ [x])).1 = (frp e pre).1 ++ [((frp e pre).2, min e x.f0 - (frp e pre).2)] by rw [frp_snoc, stp, if_pos hh])
      have HH := Lib.hid hh
      have HQ := Lib.hid hq
      have h1' := decide_eq_true hh.1
      have h2' := decide_eq_true hh.2
      have hwm : IntKind.i64.wrap (min e x.f0 - (frp e pre).2) = min e x.f0 - (frp e pre).2 := IntWalk.i64_in _ (by omega)
      clear hq hh hx hg2 hat
      gi_wp2_with fail
      obtain ⟨fn, tmps, assign, body, hy, hR⟩ := hY _ _ _ X2 HQ.out hj
      rw [hy]
      refine ⟨fun h_ => by simp [Fence.wide] at h_, ?_⟩
      refine hR.mono ?_
      rintro en X3 ⟨(⟨rfl, hJ3, hk3⟩ | ⟨rfl, hJx3⟩), hf3⟩
      · obtain ⟨f1, f1'⟩ := hk3.row (fun t => hC1 _ _ t (by omega)) ⟨d1, d1'⟩
        obtain ⟨f2, f2'⟩ := hk3.row (fun t => hC1 _ _ t (by omega)) ⟨d2, d2'⟩
        obtain ⟨f3, f3'⟩ := hk3.row (fun t => hE _) ⟨d3, d3'⟩
        have hb4 : Boxed X3 (W.heap.size + 1) 3 (.int .i64 (frp e pre).2) := hk3.same _ _ (hC1 _ _ _ (by omega)) hb3 rfl
        obtain ⟨f7, f7'⟩ := Row.of (t := 33) (hk3.boxN (hCs X.heap.size x (by omega)) hx7)
        clear d1 d1' d2 d2' d3 d3' d7 d7' hy hR
        gi_wp2
        have hK5 : KeepC (fun k o => C k o ∨ k = W.heap.size + 1) X2 (X3.setCell ⟨W.heap.size + 1, 0, none⟩ (.int .i64 (x.f0 + x.f1))) := (hk3.more (fun k o h => .inl h)).trans (KeepC.setCell (C := fun k o => C k o ∨ k = W.heap.size + 1) X3 (p := ⟨W.heap.size + 1, 0, none⟩) (fun _ => .inr rfl) _)
        have hF5 : KeepsFrom W1.heap.size X2 (X3.setCell ⟨W.heap.size + 1, 0, none⟩ (.int .i64 (x.f0 + x.f1))) := ⟨hK5.size, fun k o hB hi ho => (Below.heap_setCell _ _ _ k (by simp; omega)).trans (hf3.same k o (by omega) hi ho)⟩
        have hJ5 : J (frp e (pre ++ [x])).1 (X3.setCell ⟨W.heap.size + 1, 0, none⟩ (.int .i64 (x.f0 + x.f1))) := by
          have ht2 := hb4
          rw [HS.out]
          exact hJ _ X3 _ (some (W.heap.size + 1)) hJ3 (grownBy_setCell' X3 (W.heap.size + 1) _) (fun r er => by cases er; exact ⟨by omega, _, ht2, hPv2 _⟩)
        refine ⟨hF5, hK5, hJ5, ⟨by go_simp, by go_simp⟩, ?_, ⟨by go_simp, by go_simp⟩, hk.trans hK5, Nat.le_trans hz hK5.size⟩
        rw [frp_snoc]
        exact hb4.set _
      · gi_wp2
        exact ⟨⟨hf3.size, fun k o h1 h2 h3 => hf3.same k o (by omega) h2 h3⟩, rfl, pre, x, rfl, HH.out, hJx3⟩
    · have HS := Lib.hid (show (frp e (pre ++ [x])).1 = (frp e pre).1 by rw [frp_snoc, stp, if_neg hh]; simp)
      clear hx hg2 hat
      by_cases h1 : (frp e pre).2 < x.f0
      · by_cases h2 : (frp e pre).2 < e
        · exact absurd ⟨h1, h2⟩ hh
        · have h1' := decide_eq_true h1
          have h2' := decide_eq_false h2
          clear hh h1 h2
          gi_wp2
          refine ⟨KeepsFrom.aside (P := fun k => k = W.heap.size + 1) (by go_simp) (fun k hk => by omega), KeepC.setCell (C := fun k o => C k o ∨ k = W.heap.size + 1) X2 (p := ⟨W.heap.size + 1, 0, none⟩) (fun _ => .inr rfl) _, ?_, ⟨by go_simp, by go_simp⟩, ?_, ⟨by go_simp, by go_simp⟩, hk.trans (KeepC.setCell (C := fun k o => C k o ∨ k = W.heap.size + 1) X2 (p := ⟨W.heap.size + 1, 0, none⟩) (fun _ => .inr rfl) _), ?_⟩
          · have ht2 := hb3
            rw [HS.out]
            exact hJ _ X2 _ (some (W.heap.size + 1)) hj (grownBy_setCell' X2 (W.heap.size + 1) _) (fun r er => by cases er; exact ⟨by omega, _, ht2, hPv2 _⟩)
          · rw [frp_snoc]
            exact hb3.set _
          · simpa using hz
      · have h1' := decide_eq_false h1
        clear hh h1
        gi_wp2
        refine ⟨KeepsFrom.aside (P := fun k => k = W.heap.size + 1) (by go_simp) (fun k hk => by omega), KeepC.setCell (C := fun k o => C k o ∨ k = W.heap.size + 1) X2 (p := ⟨W.heap.size + 1, 0, none⟩) (fun _ => .inr rfl) _, ?_, ⟨by go_simp, by go_simp⟩, ?_, ⟨by go_simp, by go_simp⟩, hk.trans (KeepC.setCell (C := fun k o => C k o ∨ k = W.heap.size + 1) X2 (p := ⟨W.heap.size + 1, 0, none⟩) (fun _ => .inr rfl) _), ?_⟩
        · have ht2 := hb3
          rw [HS.out]
          exact hJ _ X2 _ (some (W.heap.size + 1)) hj (grownBy_setCell' X2 (W.heap.size + 1) _) (fun r er => by cases er; exact ⟨by omega, _, ht2, hPv2 _⟩)
        · rw [frp_snoc]
          exact hb3.set _
        · simpa using hz
  case done =>
    rintro D X hD2 ⟨hj, ⟨c1, c1'⟩, hb2, ⟨c3, c3'⟩, hk, hz⟩ hK
    obtain ⟨c2, c2'⟩ : Row X (W.heap.size + 1) #[.int .i64 (frp e d).2] := Row.of (t := 3) hb2
    obtain ⟨t0, t1⟩ := frp_at (e := e) (d := d) hD
    unfold TOP at t1
    clear hj1 y1 y2 y3 y4 y5 hrC
    by_cases hl : (frp e d).2 < e
    · have HF := Lib.hid (show fr e d = (frp e d).1 ++ [((frp e d).2, e - (frp e d).2)] by rw [fr, if_pos hl])
      have h1' := decide_eq_true hl
      have hwe : IntKind.i64.wrap (e - (frp e d).2) = e - (frp e d).2 := IntWalk.i64_in _ (by omega)
      clear hl
      gi_wp2_with fail
      obtain ⟨fn, tmps, assign, body, hy, hR⟩ := hY _ _ [] X HF.out hj
      rw [hy]
      refine ⟨fun h_ => by simp [Fence.wide] at h_, ?_⟩
      refine hR.mono ?_
      rintro en X3 ⟨(⟨rfl, hJ3, hk3⟩ | ⟨rfl, hJx3⟩), hf3⟩
      · have hK3 : X3.heap[D]? = some (.deferred (some [])) := hf3.same D _ (by omega) hK rfl
        gi_wp2
        refine leave_mark hK3 (v := .tuple #[]) (by simp [results, Try.results36, go_sem]) ⟨⟨_, rfl⟩, .inl ?_⟩
        rw [HF.out]
        exact OwnP.put hJ _ hJ3 (by omega) hK3 (hPv1 _ rfl)
      · have hK3 : X3.heap[D]? = some (.deferred (some [])) := hf3.same D _ (by omega) hK rfl
        gi_wp2
        refine leave_mark hK3 (v := .tuple #[]) (by simp [results, Try.results36, go_sem]) ⟨⟨_, rfl⟩, .inr ?_⟩
        exact ⟨_, _, [], HF.out, OwnP.put hJx _ hJx3 (by omega) hK3 (hPv1 _ rfl)⟩
    · have HF := Lib.hid (show fr e d = (frp e d).1 by rw [fr, if_neg hl]; simp)
      have h1' := decide_eq_false hl
      clear hl
      gi_wp2
      refine leave_mark hK (v := .tuple #[]) (by simp [results, Try.results36, go_sem]) ⟨⟨_, rfl⟩, .inl ?_⟩
      rw [HF.out]
      exact OwnP.put hJ _ hj (by omega) hK (hPv1 _ rfl)
  case stop =>
    rintro D cd pre x post X hx hD2 ⟨rfl, p, x', hp, h1, h2⟩ hK
    obtain ⟨rfl, rfl⟩ : pre = p ∧ x = x' := by simpa using hp
    obtain ⟨q, hq⟩ := fr_hit (e := e) (pre := pre) (post := post) (x := x) h1
    rw [← hx] at hq
    have HQ := Lib.hid hq
    clear hq hx hp
    gi_wp2
    refine leave_mark hK (v := .tuple #[]) (by simp [results, Try.results36, go_sem]) ⟨⟨_, rfl⟩, .inr ?_⟩
    exact ⟨_, _, _, HQ.out, OwnP.put hJx _ h2 (by omega) hK (hPv1 _ rfl)⟩
end Go.Proofs.Ytjkbocejdjnfiaa.Bs
