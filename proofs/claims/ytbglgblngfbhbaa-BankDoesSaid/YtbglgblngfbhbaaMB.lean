/- Several texts in one. -/
import Derived.Test.YtbglgblngfbhbaaMA
import Derived.Test.YtbglgblngfbhbaaSrt
import Derived.Shelf.SlSortCmp.NoneTotal
import Derived.Test.YtbglgblngfbhbaaIAllx4
import Derived.Test.YtbglgblngfbhbaaIAllx5
import Derived.Test.YtbglgblngfbhbaaTk
import Derived.Test.YtbglgblngfbhbaaWEqStruct
namespace Go.Proofs.Ytbglgblngfbhbaa.Bk
open Go.RowKit Go.Shelf Go.Proofs.Ytbglgblngfbhbaa.IAll Go.Proofs.YtbglgblngfbhbaaW.PrintWords Go.Proofs.YtbglgblngfbhbaaW.PrintLast Go.Proofs.YtbglgblngfbhbaaW.PrintMore
set_option linter.unusedVariables false
set_option linter.unusedSectionVars false
set_option linter.unusedSimpArgs false
attribute [local go_sem] Oper.semAt_some cell_row frozen_row isRow_setCell_eq rowAt_setCell_same rowAt_setCell_other isRow_alloc_eq rowAt_alloc rowAt_new rowAt_new' isRow_setRow_eq rowAt_setRow_same rowAt_setRow_other isRow_drew rowAt_drew size_setRow_ size_drew_ blk_ptr aggOf_agg offv_ptr below_alloc_e below_setCell_e below_setRow_e below_refl_e below_drew_r isRow_drewN rowAt_drewN below_drewN_e le_add_r asideP_alloc_e asideP_setCell_e asideP_setRow_e asideP_drew_e asideP_drewN_e asideP_refl_e allOne_nil allOne_cons Value.oneCell' addr_at mid_FT vE_size vL_size vQ_size vC_size vS_size vP_size vE_one vL_one vQ_one vC_one vS_one vP_one mid_spl spl_size spl_spl mid_vE vE_ext4 vE_ext7 vE_ext8 vE_0 vE_1 vE_2 vE_3 vE_4 vE_5 vE_6 vE_7 vC_0 vC_1 vC_2 vC_3
attribute [local go_sem ↓] loadE storeE loadEm storeEm loadEg storeEg loadEmg storeEmg loadL storeL loadLm storeLm loadQ storeQ loadQm storeQm loadC storeC loadCg storeCg loadS storeS loadSm loadP storeP loadPm loadPg storePg 
set_option maxRecDepth 100000

theorem KeepC.setT {F : Nat → Prop} {n B i : Nat} {W : World} {t : TypeId} {cs : Array Value} (h : BoxN W B t cs) (ht : t ≠ 81) (hn : n ≤ B) (v : Value) : KeepC (CF F n) W (W.setCell ⟨B, i, none⟩ v) :=
  ⟨(KeepsWalks.setCell W _ v).size, fun k o hc hk _ => (Below.heap_setCell W ⟨B, i, none⟩ v k (fun e => hc (by
    have e' : k = B := e
    subst e'
    rw [show W.heap[k]? = _ from h] at hk
    refine .inl ⟨hn, fun cs' e2 => ?_⟩
    rw [← Option.some.inj hk] at e2
    injection e2 with _ e3 _
    exact ht e3))).trans hk⟩
theorem info3 : (Try.prog.info? 3).map (fun i => (i.zero, i.size, i.bytes)) = some (some (.int .i64 0), 1, 8) := by kernel_rfl
theorem own_notNo {W X : World} {n e sz m : Nat} {v : Value} {xs : List Value} {row : Option Nat} (h : W.ownsRow n e sz v m xs) (hr : ∀ r, row = some r → ∃ o : Obj, W.heap[r]? = some o ∧ NoCells o) : v.ownBlock = none ∨ v.ownBlock ≠ row := by
  rcases h.2 with ⟨rfl, -⟩ | ⟨g, cap, cur, rfl, hg, hh, -⟩
  · exact .inl rfl
  · refine .inr (fun er => ?_)
    obtain ⟨o, h1, h2⟩ := hr g er.symm
    rw [show W.heap[g]? = _ from hh] at h1
    obtain rfl := Option.some.inj h1
    cases h2
/-- what an append in a round keeps -/
theorem KeepC.append {F : Nat → Prop} {n₀ B sz m : Nat} {t e : TypeId} {v v' : Value} {xs : List Value} {W w1 : World} {tmp : Obj} (hv : Boxed W B t v) (ht : t ≠ 81) (he : e ≠ 81) (hn : n₀ ≤ B ∨ F B) (hrow : W.ownsRow n₀ e sz v m xs) (hgrow : (W.alloc tmp).grownBy w1 v.ownBlock) :
    KeepC (CF F n₀) W (w1.setCell ⟨B, 0, none⟩ v') := by
  have hs : (W.alloc tmp).heap.size ≤ w1.heap.size := hgrow.size
  refine ⟨by simp at hs ⊢; omega, fun k o hc hk ho => ?_⟩
  have hkl := (Array.getElem?_eq_some_iff.1 hk).1
  have hkB : ¬ k = B := fun e' => hc (by
    subst e'
    rw [show W.heap[k]? = _ from hv] at hk
    rcases hn with hn | hn
    · refine .inl ⟨hn, fun cs' e2 => ?_⟩
      rw [← Option.some.inj hk] at e2
      injection e2 with _ e3 _
      exact ht e3
    · exact .inr hn)
  refine (Below.heap_setCell _ _ _ k hkB).trans ((hgrow.block k (by simp; omega) (fun er => ?_)).trans ((Below.heap_alloc _ _ _ hkl).trans hk))
  rcases hrow.2 with ⟨rfl, -⟩ | ⟨g, cap, cur, rfl, hg, hh, -⟩
  · simp [Value.ownBlock] at er
  · have hkg : g = k := by simpa [Value.ownBlock] using er.symm
    subst hkg
    rw [show W.heap[g]? = _ from hh] at hk
    refine hc (.inl ⟨hg, fun cs' e2 => ?_⟩)
    rw [← Option.some.inj hk] at e2
    injection e2 with _ e3 _
    exact he e3
theorem cell_new1 (w : World) (x : Value) (t : TypeId) : ∀ j u, [x][j]? = some u → (w.alloc (.cells #[x] t)).cell? ((⟨w.heap.size, 0, none⟩ : Addr).add j) = some u := by
  intro j u hj
  rw [addr_at, cell_row isRow_new, rowAt_new]
  simpa using hj
set_option maxHeartbeats 2000000 in
theorem Count_c (F : Nat → Prop) (v : Value) (xs : List (Int × E)) (w : World) (hv : ItV F v xs w) (hx : xs.length ≤ 16384) :
    Calls Try.prog 23 #[v] w fun e w' => e = .returned (.int .i64 xs.length) ∧ Below w.heap.size w w' := by
  obtain ⟨gf, lb, rfl, eg, hit⟩ := hv
  refine calls_of_wide ?_
  refine callsIn_of_wp_marks Try.func23 rfl trivial ?_ rfl
  simp only [Try.ntmps23, List.size_toArray, List.length_cons, List.length_nil, Nat.reduceAdd, Nat.reduceSub, Array.replicate_succ, Array.replicate_zero, List.push_toArray, List.append_toArray, List.nil_append, List.cons_append]
  gi_wp2_with fail
  obtain ⟨W1, hW1⟩ : ∃ W1, w.alloc (.cells #[.int .i64 0] 3) = W1 := ⟨_, rfl⟩
  have b1 : Boxed W1 w.heap.size 3 (.int .i64 0) := by rw [← hW1]; exact Boxed.new w 3 (.int .i64 0)
  have hB1 : Below w.heap.size w W1 := by rw [← hW1]; exact (Below.refl _ w).alloc (Nat.le_refl _) _
  have hs1 : w.heap.size < W1.heap.size := b1.lt
  (try rw [hW1])
  clear hW1
  refine wp_range (Pv := NoCells) (fun _ h => h) rfl eg (hit w.heap.size W1 (Nat.le_refl _) hB1) (Below.refl _ _) (fun h k => h.trans k) (fun W l o o' _ h1 h2 => KeepC.put W l o o' h1 h2) (fun _ => rfl)
    (fun pre X => Boxed X w.heap.size 3 (.int .i64 pre.length) ∧ Below w.heap.size w X) (fun _ _ _ => False)
    ((OwnP.box NoCells hs1 3 (fun pre : List (Int × E) => .int .i64 pre.length)).and (OwnP.below NoCells (Nat.le_refl _) (Nat.le_of_lt hs1))) (fun _ => OwnP.const _ _ (fun _ => False)) ⟨b1, hB1⟩ ?round ?done ?stop
  case round =>
    rintro l pre x post X hxs hl hlt ⟨hb, hB⟩
    have hle : pre.length + 1 ≤ 16384 := by rw [hxs] at hx; simp at hx; omega
    have w3 : IntKind.i64.wrap ((pre.length : Int) + 1) = ((pre.length + 1 : Nat) : Int) := (IntWalk.i64_in _ (by omega)).trans (by omega)
    gi_wp2
    refine ⟨KeepsFrom.refl _ _, KeepC.refl _ _, ⟨hb, hB⟩, ?_⟩
    clear hb hB
    (first | (rintro X2 hg2 ⟨hb, hB⟩) | (rintro X2 hg2 hb hB))
    have hc := hb.cell
    have hf := hb.frozen
    clear hxs hg2 hlt hl
    gi_wp2
    refine ⟨(KeepsOthers.setCell _ _ _).from _, KeepC.setT hb (by decide) (Nat.le_refl _) _, ?_, hB.setCell (Nat.le_refl _) _⟩
    have := hb.set (.int .i64 ((pre.length + 1 : Nat) : Int))
    simpa using this
  case done =>
    rintro D X hD ⟨hb, hB⟩ hK
    have hc := hb.cell
    gi_wp2
    refine leave_mark hK (v := .int .i64 xs.length) (by simp [results, Try.results23, go_sem]) ⟨rfl, below_putD hB (by omega) _⟩
  case stop =>
    rintro D c pre x post X _ _ h _
    exact h.elim
set_option maxHeartbeats 2000000 in
theorem ids_c (F : Nat → Prop) (v : Value) (xs : List (Int × E)) (w : World) (hv : ItV F v xs w) (hx : xs.length ≤ 16384) :
    Calls Try.prog 19 #[v] w fun e w' => ∃ u, e = .returned u ∧ w'.ownsRow (w.heap.size + 1) 3 1 u xs.length (xs.map fun x => Value.int .i64 x.1) ∧ Below w.heap.size w w' := by
  obtain ⟨gf, lb, rfl, eg, hit⟩ := hv
  obtain ⟨i0, hi, hz0, hz1, hz2⟩ := info_parts info3
  refine calls_of_wide ?_
  refine callsIn_of_wp_marks Try.func19 rfl trivial ?_ rfl
  simp only [Try.ntmps19, List.size_toArray, List.length_cons, List.length_nil, Nat.reduceAdd, Nat.reduceSub, Array.replicate_succ, Array.replicate_zero, List.push_toArray, List.append_toArray, List.nil_append, List.cons_append]
  gi_wp2_with fail
  obtain ⟨W1, hW1⟩ : ∃ W1, w.alloc (.cells #[.slice none 0 0] 51) = W1 := ⟨_, rfl⟩
  have b1 : Boxed W1 w.heap.size 51 (.slice none 0 0) := by rw [← hW1]; exact Boxed.new w 51 _
  have hB1 : Below w.heap.size w W1 := by rw [← hW1]; exact (Below.refl _ w).alloc (Nat.le_refl _) _
  have hs1 : W1.heap.size = w.heap.size + 1 := by rw [← hW1]; simp
  (try rw [hW1])
  clear hW1
  refine wp_range (Pv := NoCells) (fun _ h => h) rfl eg (hit w.heap.size W1 (Nat.le_refl _) hB1) (Below.refl _ _) (fun h k => h.trans k) (fun W l o o' _ h1 h2 => KeepC.put W l o o' h1 h2) (fun _ => rfl)
    (fun pre X => ∃ u, Boxed X w.heap.size 51 u ∧ X.ownsRow (w.heap.size + 1) 3 1 u pre.length (pre.map fun x => Value.int .i64 x.1) ∧ Below w.heap.size w X) (fun _ _ _ => False)
    ?hI (fun _ => OwnP.const _ _ (fun _ => False)) ⟨_, b1, World.ownsRow_nil _ _ _ _, hB1⟩ ?round ?done ?stop
  case hI =>
    rintro pre X Y row ⟨u, h1, h2, h3⟩ hg hr
    exact ⟨u, h1.kept hg (fun er => by have := (hr _ er.symm).1; omega), h2.kept hg (own_notNo (X := Y) h2 (fun r er => (hr r er).2)), OwnP.below (β := Unit) NoCells (Nat.le_refl _) (by omega) () X Y row h3 hg hr⟩
  case round =>
    rintro l pre x post X hxs hl hlt ⟨u, hb, hrow, hB⟩
    have hle : pre.length + 1 ≤ 16384 := by rw [hxs] at hx; simp at hx; omega
    have hd : decide ((20000 : Int) < ((pre.length + 1 : Nat) : Int)) = false := decide_eq_false (by omega)
    have hd2 : decide ((20000 : Int) < (pre.length : Int) + 1) = false := decide_eq_false (by omega)
    gi_wp2
    refine ⟨KeepsFrom.refl _ _, KeepC.refl _ _, ⟨u, hb, hrow, hB⟩, ?_⟩
    clear hb hB hrow
    rintro X2 hg2
    rintro ⟨u, hb, hrow, hB⟩
    have hc := hb.cell
    have lz := hb.lt
    clear hxs hg2 hlt hl
    gi_wp2_with (gi_at_builtin; refine wpListIn_append_own _ rfl _ _ 51 rfl (w.heap.size + 1) 3 i0 (.int .i64 0) 1 8 Try.underlying51 hi hz0 hz1 hz2 rfl (by decide) _ _ _ rfl (hrow.alloc _) ⟨X2.heap.size, 0, none⟩ 1 1 [.int .i64 x.1] rfl rfl (cell_new1 _ _ _) (by simp [Value.oneCell']) (by unfold maxLen; omega) (by omega) (by simp; omega) ?_; intro v' w1 hown' hgrow _; obtain ⟨g', cap', rfl⟩ := ownsRow_succ hown'; obtain ⟨hv1, hv2, hr2, hk2, hb2, hs2⟩ := box_append hb (by decide) hrow hown' hgrow; have hc1 := hv1.cell; have hf1 := hv1.frozen; have hc2 := hv2.cell)
    refine ⟨hk2.from _, ?_, ⟨_, hv2, ?_, hB.trans (hb2 _ (by omega) (by omega) (by omega))⟩⟩
    · exact (KeepC.append (F := F) hb (by decide) (by decide) (.inl (Nat.le_refl _)) (ownsRow_lower hrow (by omega)) hgrow)
    · rw [List.map_append, List.length_append]
      exact hr2
  case done =>
    rintro D X hD ⟨u, hb, hrow, hB⟩ hK
    have hc := hb.cell
    gi_wp2
    refine leave_mark hK (v := u) (by simp [results, Try.results19, go_sem]) ⟨u, rfl, ?_, below_putD hB (by omega) _⟩
    refine hrow.kept (grownBy_putObj' _ _ _) (own_notNo (X := X) hrow (fun r er => ?_))
    obtain rfl := Option.some.inj er
    exact ⟨_, hK, rfl⟩
  case stop =>
    rintro D c pre x post X _ _ h _
    exact h.elim
end Go.Proofs.Ytbglgblngfbhbaa.Bk

namespace Go.Proofs.Ytbglgblngfbhbaa.Bk
open Go.RowKit Go.Shelf Go.Proofs.Ytbglgblngfbhbaa.IAll Go.Proofs.YtbglgblngfbhbaaW.PrintWords Go.Proofs.YtbglgblngfbhbaaW.PrintLast Go.Proofs.YtbglgblngfbhbaaW.PrintMore
set_option linter.unusedVariables false
set_option linter.unusedSectionVars false
set_option linter.unusedSimpArgs false
attribute [local go_sem] Oper.semAt_some cell_row frozen_row isRow_setCell_eq rowAt_setCell_same rowAt_setCell_other isRow_alloc_eq rowAt_alloc rowAt_new rowAt_new' isRow_setRow_eq rowAt_setRow_same rowAt_setRow_other isRow_drew rowAt_drew size_setRow_ size_drew_ blk_ptr aggOf_agg offv_ptr below_alloc_e below_setCell_e below_setRow_e below_refl_e below_drew_r isRow_drewN rowAt_drewN below_drewN_e le_add_r asideP_alloc_e asideP_setCell_e asideP_setRow_e asideP_drew_e asideP_drewN_e asideP_refl_e allOne_nil allOne_cons Value.oneCell' addr_at mid_FT vE_size vL_size vQ_size vC_size vS_size vP_size vE_one vL_one vQ_one vC_one vS_one vP_one mid_spl spl_size spl_spl mid_vE vE_ext4 vE_ext7 vE_ext8 vE_0 vE_1 vE_2 vE_3 vE_4 vE_5 vE_6 vE_7 vC_0 vC_1 vC_2 vC_3
attribute [local go_sem ↓] loadE storeE loadEm storeEm loadEg storeEg loadEmg storeEmg loadL storeL loadLm storeLm loadQ storeQ loadQm storeQm loadC storeC loadCg storeCg loadS storeS loadSm loadP storeP loadPm loadPg storePg 
set_option maxRecDepth 100000

theorem KeepC.setRowT {F : Nat → Prop} {n B : Nat} {W : World} {t : TypeId} {cs : Array Value} (h : BoxN W B t cs) (ht : t ≠ 81) (hn : n ≤ B) (ds : Array Value) : KeepC (CF F n) W (W.setRow B ds) :=
  ⟨by simp, fun k o hc hk _ => (setRow_other W B k ds (fun e' => hc (by
    subst e'
    rw [show W.heap[k]? = _ from h] at hk
    refine .inl ⟨hn, fun cs' e2 => ?_⟩
    rw [← Option.some.inj hk] at e2
    injection e2 with _ e3 _
    exact ht e3))).trans hk⟩
theorem boxN_setRow_ne {W : World} {g k : Nat} {t : TypeId} {cs : Array Value} (h : BoxN W g t cs) (hne : ¬ g = k) (ds : Array Value) : BoxN (W.setRow k ds) g t cs := (setRow_other W k g ds hne).trans h
theorem OwnP.boxN {β : Type} (Pv : Obj → Prop) {B b : Nat} (hb : b < B) (t : TypeId) (f : β → Array Value) : OwnP Pv B (fun s W => BoxN W b t (f s)) :=
  fun _ _ _ _ hs hg hr => hs.kept hg (fun e => by have := (hr b e.symm).1; omega)
def bst (c : C) (x : Int × E) : C := if !c.f3 || bef x.2.f6 x.1 c.f1 c.f0 then ⟨x.1, x.2.f6, x.2.f5, true⟩ else c
def best (xs : List (Int × E)) : C := xs.foldl bst zC
theorem best_snoc (xs : List (Int × E)) (x : Int × E) : best (xs ++ [x]) = bst (best xs) x := by simp [best]
theorem res_C {fn : Func} {p : Tmp} {cs : Array Value} {g : Nat} {w : World} (h : fn.results = #[.cell p 63]) (tmps : Array Value) (hp : tmps.getD p undef = .pointer (some ⟨g, 0, none⟩)) (hg : Row w g cs) (hs : cs.size = 4) : (results fn tmps).run Try.prog w = .ok (.agg cs) w :=
  results_tmps h tmps w g cs hp hg Try.underlying63 rfl infoC hs
set_option maxHeartbeats 2000000 in
theorem Best_c (F : Nat → Prop) (v : Value) (xs : List (Int × E)) (w : World) (hv : ItV F v xs w) :
    Calls Try.prog 27 #[v] w fun e w' => e = .returned (.agg (vC (best xs))) ∧ Below w.heap.size w w' := by
  obtain ⟨gf, lb, rfl, eg, hit⟩ := hv
  refine calls_of_wide ?_
  refine callsIn_of_wp_marks Try.func27 rfl trivial ?_ rfl
  simp only [Try.ntmps27, List.size_toArray, List.length_cons, List.length_nil, Nat.reduceAdd, Nat.reduceSub, Array.replicate_succ, Array.replicate_zero, List.push_toArray, List.append_toArray, List.nil_append, List.cons_append]
  gi_wp2_with fail
  obtain ⟨W1, hW1⟩ : ∃ W1, (w.alloc (.cells #[.int .i64 0, .int .i64 0, .int .i64 0, .bool false] 63)).alloc (.cells #[.int .i64 0, .int .i64 0, .int .i64 0, .bool false] 63) = W1 := ⟨_, rfl⟩
  have b0 : BoxN W1 w.heap.size 63 (vC zC) := by rw [← hW1]; exact (BoxN.new w 63 _).alloc _
  have b1 : BoxN W1 (w.heap.size + 1) 63 (vC zC) := by
    rw [← hW1]; have := BoxN.new (w.alloc (.cells #[.int .i64 0, .int .i64 0, .int .i64 0, .bool false] 63)) 63 #[.int .i64 0, .int .i64 0, .int .i64 0, .bool false]; rwa [World.size_alloc] at this
  have hB1 : Below w.heap.size w W1 := by rw [← hW1]; exact ((Below.refl _ w).alloc (Nat.le_refl _) _).alloc (by simp) _
  have hs1 : W1.heap.size = w.heap.size + 2 := by rw [← hW1]; simp
  (try rw [hW1])
  clear hW1
  refine wp_range (Pv := NoCells) (fun _ h => h) rfl eg (hit w.heap.size W1 (Nat.le_refl _) hB1) (Below.refl _ _) (fun h k => h.trans k) (fun W l o o' _ h1 h2 => KeepC.put W l o o' h1 h2) (fun _ => rfl)
    (fun pre X => BoxN X w.heap.size 63 (vC zC) ∧ BoxN X (w.heap.size + 1) 63 (vC (best pre)) ∧ Below w.heap.size w X) (fun _ _ _ => False)
    ((OwnP.boxN NoCells (by omega) 63 (fun _ => vC zC)).and ((OwnP.boxN NoCells (by omega) 63 (fun pre : List (Int × E) => vC (best pre))).and (OwnP.below NoCells (Nat.le_refl _) (by omega)))) (fun _ => OwnP.const _ _ (fun _ => False)) ⟨b0, b1, hB1⟩ ?round ?done ?stop
  case round =>
    rintro l pre x post X hxs hl hlt ⟨hb0, hb, hB⟩
    obtain ⟨id, y⟩ := x
    gi_wp2
    refine ⟨KeepsFrom.low (below_setRow ((Below.refl _ X).alloc (Nat.le_refl _) _) (Nat.le_refl _) _), KeepC.low (below_setRow ((Below.refl _ X).alloc (Nat.le_refl _) _) (Nat.le_refl _) _), ⟨OwnP.under (OwnP.boxN (β := Unit) NoCells (Nat.lt_of_lt_of_le hb0.lt (Nat.le_refl _)) 63 (fun _ => vC zC)) (s := ()) hb0 (below_setRow ((Below.refl _ X).alloc (Nat.le_refl _) _) (Nat.le_refl _) _), OwnP.under (OwnP.boxN (β := Unit) NoCells hb.lt 63 (fun _ => vC (best pre))) (s := ()) hb (below_setRow ((Below.refl _ X).alloc (Nat.le_refl _) _) (Nat.le_refl _) _), hB.trans ((below_setRow ((Below.refl _ X).alloc (Nat.le_refl _) _) (Nat.le_refl _) _).mono hB.size)⟩, ?_⟩
    have r7 : Row ((X.alloc (.cells #[.bool false, .bool false, .bool false, .bool false, .bool false, .int .i64 0, .int .i64 0, .string ⟨#[]⟩] 35)).setRow X.heap.size (vE y)) X.heap.size (vE y) := Row.setRow isRow_new
    have lb1 := hb.lt
    clear hb0 hb hB
    rintro X2 hg2
    obtain ⟨d7, d7'⟩ := Row.kept r7 hg2 (by intro e; cases e; omega)
    clear r7 hg2 hxs hlt hl
    (first | (rintro ⟨hb0, hb, hB⟩) | (rintro hb0 hb hB))
    have hfin : ∀ (X3 : World) (c : C), BoxN X3 (w.heap.size + 1) 63 (vC c) → bst (best pre) (id, y) = c → BoxN X3 (w.heap.size + 1) 63 (vC (best (pre ++ [(id, y)]))) := fun X3 c h e => by rw [best_snoc, e]; exact h
    generalize best pre = q at hb hfin
    obtain ⟨c1, c1'⟩ := Row.of hb
    have ne1 : ¬ w.heap.size + 1 = X.heap.size := by omega
    have ne2 : ¬ X.heap.size = w.heap.size + 1 := by omega
    have hX : AsideP (fun k => k = w.heap.size + 1) X2 X2 := .of_below (Below.refl _ _)
    cases hq : q.f3 with
    | false =>
      gi_wp2
      refine ⟨KeepsFrom.aside (P := fun k => k = w.heap.size + 1) (by go_simp) (fun k hk => by omega), KeepC.setRowT hb (by decide) (by omega) _, (boxN_setRow_ne hb0 (by omega) _), hfin _ _ (boxN_setRow hb _) (by simp [bst, hq]; rfl), below_setRow (hB) (by omega) _⟩
    | true =>
      have HC := Lib.hid (fun (U : World) => before_c y.f6 id q.f1 q.f0 U)
      gi_wp2_with fail
      refine (in_of_calls (HC.out _)).mono ?_
      rintro e v1 ⟨rfl, hb9⟩
      obtain ⟨e1, e1'⟩ := Row.step c1 c1' hb9
      obtain ⟨e7, e7'⟩ := Row.step d7 d7' hb9
      have hb' : BoxN v1 (w.heap.size + 1) 63 (vC q) := (hb9.block _ hb.lt).trans hb
      have hb0' : BoxN v1 w.heap.size 63 (vC zC) := (hb9.block _ hb0.lt).trans hb0
      have hKb : KeepC (CF F w.heap.size) X2 v1 := KeepC.low hb9
      have hX1 : AsideP (fun k => k = w.heap.size + 1) X2 v1 := .of_below hb9
      have hB' : Below w.heap.size w v1 := hB.trans (hb9.mono hB.size)
      clear c1 c1' d7 d7' hb hb0 hB hX
      cases hz : bef y.f6 id q.f1 q.f0 with
      | true =>
        gi_wp2
        refine ⟨KeepsFrom.aside (P := fun k => k = w.heap.size + 1) (by go_simp) (fun k hk => by omega), hKb.trans (KeepC.setRowT hb' (by decide) (by omega) _), (boxN_setRow_ne hb0' (by omega) _), hfin _ _ (boxN_setRow hb' _) (by simp [bst, hq, hz]; rfl), below_setRow (hB') (by omega) _⟩
      | false =>
        gi_wp2
        exact ⟨KeepsFrom.low hb9, hKb, hb0', hfin _ _ hb' (by simp [bst, hq, hz]), hB'⟩
  case done =>
    rintro D X hD ⟨hb0, hb, hB⟩ hK
    obtain ⟨c1, c1'⟩ := Row.of hb
    obtain ⟨c0, c0'⟩ := Row.of hb0
    gi_wp2
    have hd1 : ¬ w.heap.size = D := by omega
    have hBX : Below w.heap.size w (X.setRow w.heap.size (vC (best xs))) := below_setRow hB (Nat.le_refl _) _
    have hKX : (X.setRow w.heap.size (vC (best xs))).heap[D]? = some (.deferred (some [])) := (setRow_other X w.heap.size D _ (fun e => hd1 e.symm)).trans hK
    refine leave_mark hKX (v := .agg (vC (best xs))) (res_C rfl _ rfl (Row.of (boxN_putD (boxN_setRow hb0 (vC (best xs))) hd1 _)) rfl) ⟨rfl, below_putD hBX (by omega) _⟩
  case stop =>
    rintro D c pre x post X _ _ h _
    exact h.elim
end Go.Proofs.Ytbglgblngfbhbaa.Bk

namespace Go.Proofs.Ytbglgblngfbhbaa.Bk
open Go.RowKit Go.Shelf Go.Lib Go.Sort Go.Proofs.Ytbglgblngfbhbaa.IAll Go.Proofs.YtbglgblngfbhbaaW.PrintWords Go.Proofs.YtbglgblngfbhbaaW.PrintLast Go.Proofs.YtbglgblngfbhbaaW.PrintMore
set_option linter.unusedVariables false
set_option linter.unusedSectionVars false
set_option linter.unusedSimpArgs false
attribute [local go_sem] Oper.semAt_some cell_row frozen_row isRow_setCell_eq rowAt_setCell_same rowAt_setCell_other isRow_alloc_eq rowAt_alloc rowAt_new rowAt_new' isRow_setRow_eq rowAt_setRow_same rowAt_setRow_other isRow_drew rowAt_drew size_setRow_ size_drew_ blk_ptr aggOf_agg offv_ptr below_alloc_e below_setCell_e below_setRow_e below_refl_e below_drew_r isRow_drewN rowAt_drewN below_drewN_e le_add_r asideP_alloc_e asideP_setCell_e asideP_setRow_e asideP_drew_e asideP_drewN_e asideP_refl_e allOne_nil allOne_cons Value.oneCell' addr_at mid_FT vE_size vL_size vQ_size vC_size vS_size vP_size vE_one vL_one vQ_one vC_one vS_one vP_one mid_spl spl_size spl_spl vP_0 vP_1
attribute [local go_sem ↓] loadE storeE loadEm storeEm loadEg storeEg loadEmg storeEmg loadL storeL loadLm storeLm loadQ storeQ loadQm storeQm loadC storeC loadCg storeCg loadS storeS loadSm loadP storeP loadPm loadPg storePg 
set_option maxRecDepth 100000

instance : Inhabited P := ⟨zP⟩
def cf (x y : P) : Int := if Lib.compareInt x.f0 y.f0 ≠ 0 then Lib.compareInt x.f0 y.f0 else Lib.compareInt x.f1 y.f1
theorem lt_is (x y : P) : ltOf cf x y = bef x.f0 x.f1 y.f0 y.f1 := by
  unfold ltOf cf Lib.compareInt bef
  by_cases h1 : x.f0 < y.f0
  · simp [h1]
  · by_cases h2 : y.f0 < x.f0
    · have h3 : ¬ x.f0 = y.f0 := by omega
      simp [h1, h2, h3]
    · have h3 : x.f0 = y.f0 := by omega
      by_cases h4 : x.f1 < y.f1
      · simp [h3, h4]
      · by_cases h5 : y.f1 < x.f1 <;> simp [h3, h4, h5]
theorem bef_iff (p a q b : Int) : bef p a q b = true ↔ p < q ∨ (p = q ∧ a < b) := by simp [bef]
theorem swo : SWO (ltOf cf) where
  irrefl x := by rw [lt_is]; simp [bef]
  trans x y z h1 h2 := by rw [lt_is, bef_iff] at *; omega
  ntrans x y z h1 h2 := by
    rw [lt_is] at *
    rw [← Bool.not_eq_true, bef_iff] at *
    omega
theorem compare_c (x y : Int) (W : World) : Calls Try.prog 42 #[.int .i64 x, .int .i64 y] W fun e w' => e = .returned (.int .i64 (Lib.compareInt x y)) ∧ w' = W := by
  unfold Lib.compareInt
  go_enter Try.func42, Try.ntmps42
  by_cases h1 : x < y
  · have h1' := decide_eq_true h1
    go_wp2
    go_ret
    exact ⟨by simp [h1], rfl⟩
  · have h1' := decide_eq_false h1
    by_cases h2 : y < x
    · have h2' := decide_eq_true h2
      go_wp2
      go_ret
      exact ⟨by simp [h1, h2], rfl⟩
    · have h2' := decide_eq_false h2
      go_wp2
      go_ret
      exact ⟨by simp [h1, h2], rfl⟩
theorem or_c (x y : Int) (b : Nat) (W : World) (hr : Row W b #[.int .i64 x, .int .i64 y]) : Calls Try.prog 41 #[.slice (some ⟨b, 0, none⟩) 2 2] W fun e w' => e = .returned (.int .i64 (if x ≠ 0 then x else y)) ∧ w' = W := by
  obtain ⟨h, h'⟩ := hr
  generalize hz : (if x ≠ 0 then x else y) = r
  have HZ := Lib.hid hz
  clear hz
  go_enter Try.func41, Try.ntmps41
  go_wp2
  go_loopw [5, 8] (fun p q wr => ∃ k : Nat, k ≤ 2 ∧ q = .int .i64 k ∧ wr = W ∧ (1 ≤ k → x = 0) ∧ (2 ≤ k → y = 0)) (fun _ q _ => 2 - (intOf q).toNat)
  case atStart => exact ⟨0, by omega, rfl, rfl, by omega, by omega⟩
  case round =>
    obtain ⟨k, hk, rfl, rfl, g1, g2⟩ := hrel
    obtain rfl | rfl | rfl : k = 0 ∨ k = 1 ∨ k = 2 := by omega
    · clear g1 g2
      by_cases hx : x = 0
      · have hq : (x != 0) = false := by simp [hx]
        have HX := Lib.hid hx
        clear hx
        go_wp2
        go_roundw
        case rel => exact ⟨1, by omega, by first | rfl | simp, by first | rfl | trivial, fun _ => HX.out, by omega⟩
        case measure => simp [intOf]
      · have hq : (x != 0) = true := by simpa using hx
        have HX := Lib.hid hx
        clear hx
        go_wp2
        go_ret
        exact ⟨by rw [← HZ.out, if_pos HX.out]; rfl, rfl⟩
    · have HX := Lib.hid (g1 (by omega))
      clear g1 g2
      by_cases hy : y = 0
      · have hq : (y != 0) = false := by simp [hy]
        have HY := Lib.hid hy
        clear hy
        go_wp2
        go_roundw
        case rel => exact ⟨2, by omega, by first | rfl | simp, by first | rfl | trivial, fun _ => HX.out, fun _ => HY.out⟩
        case measure => simp [intOf]
      · have hq : (y != 0) = true := by simpa using hy
        clear hy
        go_wp2
        go_ret
        exact ⟨by rw [← HZ.out, if_neg (by rw [HX.out]; decide)]; rfl, rfl⟩
    · have HX := Lib.hid (g1 (by omega))
      have HY := Lib.hid (g2 (by omega))
      clear g1 g2
      go_wp2
      go_ret
      exact ⟨by rw [← HZ.out, if_neg (by rw [HX.out]; decide), HY.out]; rfl, rfl⟩
def SC (W : World) (x y : P) (w' : World) : Prop := (∃ os, w' = grow (W.drewN 1) os) ∧ Row w' W.heap.size (vP x) ∧ Row w' (W.heap.size + 1) (vP y)
theorem SC.alloc {W : World} {x y : P} {w' : World} (h : SC W x y w') (o : Obj) : SC W x y (w'.alloc o) := by
  obtain ⟨⟨os, rfl⟩, h2, h3⟩ := h
  exact ⟨⟨_, by rw [alloc_eq_grow, grow_grow]⟩, row_alloc h2, row_alloc h3⟩
set_option maxHeartbeats 4000000 in
theorem closure_c (x y : P) (W : World) : Calls Try.prog 40 #[.agg #[.int .i64 x.f0, .int .i64 x.f1], .agg #[.int .i64 y.f0, .int .i64 y.f1]] W fun e w' => e = .returned (.int .i64 (cf x y)) ∧ ∃ q os', w' = grow (W.drewN q) os' := by
  have HC1 := Lib.hid (fun W' => compare_c x.f0 y.f0 W')
  have HC2 := Lib.hid (fun W' => compare_c x.f1 y.f1 W')
  have HO := Lib.hid (fun b W' => or_c (Lib.compareInt x.f0 y.f0) (Lib.compareInt x.f1 y.f1) b W')
  have H0 : SC W x y ((W.alloc (.cells #[.int .i64 x.f0, .int .i64 x.f1] 85)).alloc (.cells #[.int .i64 y.f0, .int .i64 y.f1] 85)).drew := by
    refine ⟨⟨#[.cells #[.int .i64 x.f0, .int .i64 x.f1] 85] ++ #[.cells #[.int .i64 y.f0, .int .i64 y.f1] 85], ?_⟩, ⟨by go_simp, by go_simp; rfl⟩, ⟨by go_simp, by go_simp; rfl⟩⟩
    rw [alloc_eq_grow, alloc_eq_grow, grow_grow]
    rfl
  have HF : ∀ w', SC W x y w' → w'.cell? ⟨W.heap.size, 0, none⟩ = some (.int .i64 x.f0) ∧ w'.cell? ⟨W.heap.size, 1, none⟩ = some (.int .i64 x.f1) ∧ w'.cell? ⟨W.heap.size + 1, 0, none⟩ = some (.int .i64 y.f0) ∧ w'.cell? ⟨W.heap.size + 1, 1, none⟩ = some (.int .i64 y.f1) := by
    rintro w' ⟨-, ⟨a, a'⟩, ⟨b, b'⟩⟩
    exact ⟨by rw [cell_row a, a']; rfl, by rw [cell_row a, a']; rfl, by rw [cell_row b, b']; rfl, by rw [cell_row b, b']; rfl⟩
  unfold cf
  generalize Lib.compareInt x.f0 y.f0 = r at *
  generalize Lib.compareInt x.f1 y.f1 = s at *
  generalize (if r ≠ 0 then r else s) = q at *
  go_enter Try.func40, Try.ntmps40
  go_wp2_with fail
  refine wp_region_held_drew (S := SC W x y) (by kernel_rfl) H0 (fun hHeld => ?_)
  refine wpAnyH_take (i := 0) (oi := ⟨some 5, .fieldAddr 85 (.tmp 2) 0, 0, "bank.go:135", #[], none⟩) (v := ?_) rfl (by kernel_rfl) (by kernel_rfl) (by kernel_rfl) (fun _ _ _ h => h) (Or.inl ⟨by rfl, ?_⟩) (by assumption) ?_
  rotate_left
  · (intro w_ hS_; obtain ⟨c0, c1, c2, c3⟩ := HF w_ hS_; go_simp; try with_reducible rfl)
  try simp only [Act.put, List.setIfInBounds_toArray, List.set_cons_zero, List.set_cons_succ]
  refine wpAnyH_take (i := 1) (oi := ⟨some 6, .load 3 (.tmp 5), 3, "bank.go:135", #[⟨0, .data⟩], none⟩) (v := ?_) rfl (by kernel_rfl) (by kernel_rfl) (by kernel_rfl) (fun _ _ _ h => h) (Or.inl ⟨by rfl, ?_⟩) (by assumption) ?_
  rotate_left
  · (intro w_ hS_; obtain ⟨c0, c1, c2, c3⟩ := HF w_ hS_; go_simp; try with_reducible rfl)
  try simp only [Act.put, List.setIfInBounds_toArray, List.set_cons_zero, List.set_cons_succ]
  refine wpAnyH_take (i := 2) (oi := ⟨some 7, .fieldAddr 85 (.tmp 3) 0, 0, "bank.go:135", #[], none⟩) (v := ?_) rfl (by kernel_rfl) (by kernel_rfl) (by kernel_rfl) (fun _ _ _ h => h) (Or.inl ⟨by rfl, ?_⟩) (by assumption) ?_
  rotate_left
  · (intro w_ hS_; obtain ⟨c0, c1, c2, c3⟩ := HF w_ hS_; go_simp; try with_reducible rfl)
  try simp only [Act.put, List.setIfInBounds_toArray, List.set_cons_zero, List.set_cons_succ]
  refine wpAnyH_take (i := 3) (oi := ⟨some 8, .load 3 (.tmp 7), 3, "bank.go:135", #[⟨2, .data⟩], none⟩) (v := ?_) rfl (by kernel_rfl) (by kernel_rfl) (by kernel_rfl) (fun _ _ _ h => h) (Or.inl ⟨by rfl, ?_⟩) (by assumption) ?_
  rotate_left
  · (intro w_ hS_; obtain ⟨c0, c1, c2, c3⟩ := HF w_ hS_; go_simp; try with_reducible rfl)
  try simp only [Act.put, List.setIfInBounds_toArray, List.set_cons_zero, List.set_cons_succ]
  refine wpAnyH_take (i := 5) (oi := ⟨some 10, .fieldAddr 85 (.tmp 2) 1, 0, "bank.go:135", #[], none⟩) (v := ?_) rfl (by kernel_rfl) (by kernel_rfl) (by kernel_rfl) (fun _ _ _ h => h) (Or.inl ⟨by rfl, ?_⟩) (by assumption) ?_
  rotate_left
  · (intro w_ hS_; obtain ⟨c0, c1, c2, c3⟩ := HF w_ hS_; go_simp; try with_reducible rfl)
  try simp only [Act.put, List.setIfInBounds_toArray, List.set_cons_zero, List.set_cons_succ]
  refine wpAnyH_take (i := 6) (oi := ⟨some 11, .load 3 (.tmp 10), 3, "bank.go:135", #[⟨5, .data⟩], none⟩) (v := ?_) rfl (by kernel_rfl) (by kernel_rfl) (by kernel_rfl) (fun _ _ _ h => h) (Or.inl ⟨by rfl, ?_⟩) (by assumption) ?_
  rotate_left
  · (intro w_ hS_; obtain ⟨c0, c1, c2, c3⟩ := HF w_ hS_; go_simp; try with_reducible rfl)
  try simp only [Act.put, List.setIfInBounds_toArray, List.set_cons_zero, List.set_cons_succ]
  refine wpAnyH_take (i := 7) (oi := ⟨some 12, .fieldAddr 85 (.tmp 3) 1, 0, "bank.go:135", #[], none⟩) (v := ?_) rfl (by kernel_rfl) (by kernel_rfl) (by kernel_rfl) (fun _ _ _ h => h) (Or.inl ⟨by rfl, ?_⟩) (by assumption) ?_
  rotate_left
  · (intro w_ hS_; obtain ⟨c0, c1, c2, c3⟩ := HF w_ hS_; go_simp; try with_reducible rfl)
  try simp only [Act.put, List.setIfInBounds_toArray, List.set_cons_zero, List.set_cons_succ]
  refine wpAnyH_take (i := 8) (oi := ⟨some 13, .load 3 (.tmp 12), 3, "bank.go:135", #[⟨7, .data⟩], none⟩) (v := ?_) rfl (by kernel_rfl) (by kernel_rfl) (by kernel_rfl) (fun _ _ _ h => h) (Or.inl ⟨by rfl, ?_⟩) (by assumption) ?_
  rotate_left
  · (intro w_ hS_; obtain ⟨c0, c1, c2, c3⟩ := HF w_ hS_; go_simp; try with_reducible rfl)
  try simp only [Act.put, List.setIfInBounds_toArray, List.set_cons_zero, List.set_cons_succ]
  refine wpAnyH_ready (rs := [4]) (by kernel_rfl) (by simp) ?_
  refine AllReadyH.cons (o := ⟨some 9, .call ⟨.value (.func 42), #[.tmp 6, .tmp 8], #[3, 3]⟩, 3, "bank.go:135", #[⟨1, .data⟩, ⟨3, .data⟩], none⟩) rfl (fun K hK => ?_) AllReadyH.nil
  go_simp
  refine (HC1.out _).mono ?_
  rintro e u_ ⟨rfl, rfl⟩
  refine hK.out _ _ hHeld (fun hHeld => ?_)
  clear hK K
  try simp only [Act.put, List.setIfInBounds_toArray, List.set_cons_zero, List.set_cons_succ]
  refine wpAnyH_ready (rs := [9]) (by kernel_rfl) (by simp) ?_
  refine AllReadyH.cons (o := ⟨some 14, .call ⟨.value (.func 42), #[.tmp 11, .tmp 13], #[3, 3]⟩, 3, "bank.go:135", #[⟨6, .data⟩, ⟨8, .data⟩, ⟨4, .chain⟩], none⟩) rfl (fun K hK => ?_) AllReadyH.nil
  go_simp
  refine (HC2.out _).mono ?_
  rintro e u_ ⟨rfl, rfl⟩
  refine hK.out _ _ hHeld (fun hHeld => ?_)
  clear hK K
  try simp only [Act.put, List.setIfInBounds_toArray, List.set_cons_zero, List.set_cons_succ]
  refine wpAnyH_ready (rs := [10]) (by kernel_rfl) (by simp) ?_
  refine AllReadyH.cons (o := ⟨some 15, .buildSlice 51 2 #[(0, .tmp 9), (1, .tmp 14)], 51, "bank.go:135", #[⟨4, .data⟩, ⟨9, .data⟩], none⟩) rfl (fun K hK => ?_) AllReadyH.nil
  go_simp
  refine hK.out _ _ (SC.alloc hHeld _) (fun hHeld => ?_)
  clear hK K
  try simp only [Act.put, List.setIfInBounds_toArray, List.set_cons_zero, List.set_cons_succ]
  refine wpAnyH_ready (rs := [11]) (by kernel_rfl) (by simp) ?_
  refine AllReadyH.cons (o := ⟨some 16, .call ⟨.value (.func 41), #[.tmp 15], #[51]⟩, 3, "bank.go:135", #[⟨10, .data⟩, ⟨9, .chain⟩], none⟩) rfl (fun K hK => ?_) AllReadyH.nil
  go_simp
  refine (HO.out _ _ ⟨by go_simp, by go_simp⟩).mono ?_
  rintro e u_ ⟨rfl, rfl⟩
  refine hK.out _ _ hHeld (fun hHeld => ?_)
  clear hK K
  try simp only [Act.put, List.setIfInBounds_toArray, List.set_cons_zero, List.set_cons_succ]
  refine wpAnyH_take (i := 12) (oi := ⟨some 4, .assign (.tmp 16), 3, "bank.go:135", #[⟨11, .data⟩, ⟨11, .chain⟩, ⟨0, .phase⟩, ⟨1, .phase⟩, ⟨2, .phase⟩, ⟨3, .phase⟩, ⟨4, .phase⟩, ⟨5, .phase⟩, ⟨6, .phase⟩, ⟨7, .phase⟩, ⟨8, .phase⟩, ⟨9, .phase⟩, ⟨10, .phase⟩, ⟨11, .phase⟩], none⟩) (v := ?_) rfl (by kernel_rfl) (by kernel_rfl) (by kernel_rfl) (fun _ _ _ h => h) (Or.inl ⟨by rfl, ?_⟩) (by assumption) ?_
  rotate_left
  · (intro w_ hS_; obtain ⟨c0, c1, c2, c3⟩ := HF w_ hS_; go_simp; try with_reducible rfl)
  try simp only [Act.put, List.setIfInBounds_toArray, List.set_cons_zero, List.set_cons_succ]
  refine wpAnyH_done (by kernel_rfl) ?_ _
  (try dsimp only at hHeld)
  go_wp2
  go_ret
  exact ⟨rfl, 1, hHeld.1⟩
theorem closure_lays (blk off size : Nat) (w : World) : CmpLays Try.prog 40 #[] eP 2 cf blk off size w := fun _ _ _ _ x y => closure_c x y _
theorem Sort_c (blk cap : Nat) (d : Array P) (w : World) (hH : HoldsK eP 2 w blk 0 d) (hblk : blk < w.heap.size) (hsz : d.size < 4611686018427387904) :
    Calls Try.prog 39 #[.slice (some ⟨blk, 0, none⟩) d.size cap, .func (.func 40) #[] #[]] w fun e w' => e = .returned (.tuple #[]) ∧ ∃ d' n os, PermIn 0 d.size d d' ∧ SortedIn (ltOf cf) 0 d.size d' ∧ w' = sortWorldK eP 2 w blk 0 n d' os := by
  have eg : ∀ args w, (callFunc 40 args).run Try.prog w = .ok (.enter 40 args) w := enters_of Try.func40 (by kernel_rfl) rfl
  exact AnyQ.slices_SortFunc Try.sortSp 2 Try.isAgg85 Try.sizeOf85 eP (fun _ => rfl) (fun x v hv => by simp [eP] at hv; rcases hv with rfl | rfl <;> rfl) cf swo 40 #[] blk 0 cap d w eg (closure_lays blk 0 d.size w) hH hblk hsz
theorem Sort_none (p : Option Addr) (cap : Nat) (fv : Value) (w : World) : Calls Try.prog 39 #[.slice p 0 cap, fv] w fun e w' => e = .returned (.tuple #[]) ∧ w' = w := AnyF.slices_SortFunc_none Try.sortSp p cap fv w
end Go.Proofs.Ytbglgblngfbhbaa.Bk

namespace Go.Proofs.Ytbglgblngfbhbaa.Bk
open Go.RowKit Go.Shelf Go.Lib Go.Sort Go.Proofs.Ytbglgblngfbhbaa.IAll Go.Proofs.YtbglgblngfbhbaaW.PrintWords Go.Proofs.YtbglgblngfbhbaaW.PrintLast Go.Proofs.YtbglgblngfbhbaaW.PrintMore
set_option linter.unusedVariables false
set_option linter.unusedSectionVars false
set_option linter.unusedSimpArgs false
attribute [local go_sem] Oper.semAt_some cell_row frozen_row isRow_setCell_eq rowAt_setCell_same rowAt_setCell_other isRow_alloc_eq rowAt_alloc rowAt_new rowAt_new' isRow_setRow_eq rowAt_setRow_same rowAt_setRow_other isRow_drew rowAt_drew size_setRow_ size_drew_ blk_ptr aggOf_agg offv_ptr below_alloc_e below_setCell_e below_setRow_e below_refl_e below_drew_r isRow_drewN rowAt_drewN below_drewN_e le_add_r asideP_alloc_e asideP_setCell_e asideP_setRow_e asideP_drew_e asideP_drewN_e asideP_refl_e allOne_nil allOne_cons Value.oneCell' addr_at mid_FT vE_size vL_size vQ_size vC_size vS_size vP_size vE_one vL_one vQ_one vC_one vS_one vP_one mid_spl spl_size spl_spl vP_0 vP_1 mid_vE vE_ext4 vE_ext7 vE_ext8 vE_0 vE_1 vE_2 vE_3 vE_4 vE_5 vE_6 vE_7 vC_0 vC_1 vC_2 vC_3
attribute [local go_sem ↓] loadE storeE loadEm storeEm loadEg storeEg loadEmg storeEmg loadL storeL loadLm storeLm loadQ storeQ loadQm storeQm loadC storeC loadCg storeCg loadS storeS loadSm loadP storeP loadPm loadPg storePg 
set_option maxRecDepth 100000

/-- an own row's cells -/
theorem own_ft {α : Type} {enc : α → List Value} {m n base : Nat} {e : TypeId} {W : World} {v : Value} {xs : List α} (he : ∀ x, (enc x).length = m) (h : W.ownsRow base e m v n (fl enc xs)) (hx : xs.length = n) (h0 : 0 < n) :
    ∃ ob c T, v = .slice (some ⟨ob, 0, none⟩) n c ∧ base ≤ ob ∧ Row W ob (FT enc xs T) := by
  rcases h.2 with ⟨rfl, hz⟩ | ⟨g, cap, cur, rfl, hg, hh, hcap, hmax, hcs, htk⟩
  · omega
  · refine ⟨g, cap, cur.toList.drop (n * m), rfl, hg, ?_⟩
    have e1 : cur = FT enc xs (cur.toList.drop (n * m)) := by
      apply Array.ext'
      unfold FT
      rw [← htk, List.take_append_drop]
    rw [← e1]
    exact Row.of (t := e) hh
/-- these pairs stand in the block -/
def PAt (W : World) (ob : Nat) (l : List P) : Prop := ∀ k x, l[k]? = some x → W.cell? ⟨ob, k * 2, none⟩ = some (.int .i64 x.f0) ∧ W.cell? ⟨ob, k * 2 + 1, none⟩ = some (.int .i64 x.f1)
theorem PAt.below {W W' : World} {ob : Nat} {l : List P} (h : PAt W ob l) (hb : Below W.heap.size W W') : PAt W' ob l := fun k x hk => ⟨cell_low (h k x hk).1 hb, cell_low (h k x hk).2 hb⟩
theorem PAt.belowN {n : Nat} {W W' : World} {ob : Nat} {l : List P} (h : PAt W ob l) (hb : Below n W W') (hob : ob < n) : PAt W' ob l := fun k x hk => ⟨(hb.cell hob).trans (h k x hk).1, (hb.cell hob).trans (h k x hk).2⟩
theorem pat_of_holds {W : World} {ob : Nat} {d : Array P} (h : HoldsK eP 2 W ob 0 d) : PAt W ob d.toList := by
  intro k x hk
  have hk' : k < d.size := by have := (List.getElem?_eq_some_iff.1 hk).1; simpa using this
  have hx : d[k]! = x := by rw [getElem!_pos d k hk']; have := (List.getElem?_eq_some_iff.1 hk).2; simpa using this
  constructor
  · have := (h (k * 2) (by rw [size_flatK]; omega)).1
    rw [Nat.zero_add, get_flatK _ _ _ _ (by omega), show k * 2 / 2 = k by omega, show k * 2 % 2 = 0 by omega, hx] at this
    exact this
  · have := (h (k * 2 + 1) (by rw [size_flatK]; omega)).1
    rw [Nat.zero_add, get_flatK _ _ _ _ (by omega), show (k * 2 + 1) / 2 = k by omega, show (k * 2 + 1) % 2 = 1 by omega, hx] at this
    exact this
theorem row_holds {W : World} {ob : Nat} {l : List P} {T : List Value} (h : Row W ob (FT eP l T)) : HoldsK eP 2 W ob 0 l.toArray := by
  intro j hj
  rw [size_flatK, List.size_toArray] at hj
  have hk : j / 2 < l.length := by omega
  refine ⟨?_, frozen_row h.1⟩
  rw [get_flatK _ _ _ _ (by simpa using hj), Nat.zero_add]
  have e1 : l.toArray[j / 2]! = l[j / 2] := by simp [getElem!_pos, hk]
  have e2 := FT_at eP_len (T := T) (List.getElem?_eq_getElem hk) (show j % 2 < 2 by omega)
  rw [show j / 2 * 2 + j % 2 = j by omega] at e2
  show W.cell? ⟨ob, j, none⟩ = _
  rw [e1, cell_row h.1, h.2, e2]
  generalize l[j / 2] = x
  rcases (show j % 2 = 0 ∨ j % 2 = 1 by omega) with h | h <;> rw [h] <;> rfl
theorem sort_aside {w : World} {blk m : Nat} {dk : Array P} {os : Array Obj} : AsideP (fun k => k = blk) w (sortWorldK eP 2 w blk 0 m dk os) := by
  refine ⟨rfl, rfl, rfl, size_sortWorldK_c eP 2 w blk 0 m dk os, fun k hk hne => ?_⟩
  show ((w.heap.modify blk _) ++ os)[k]? = w.heap[k]?
  rw [Array.getElem?_append_left (by simpa using hk), Array.getElem?_modify]
  simp [show ¬ blk = k from fun e => hne e.symm]
/-- none comes ahead of its forerunner -/
def SrtP (l : List P) : Prop := l.Pairwise (fun a b => ltOf cf b a = false)
theorem srt_c (ob c n : Nat) (l : List P) (T : List Value) (w : World) (hr : Row w ob (FT eP l T)) (hn : l.length = n) (h0 : 0 < n) (hb : n ≤ 16384) :
    Calls Try.prog 39 #[.slice (some ⟨ob, 0, none⟩) n c, .func (.func 40) #[] #[]] w fun e w' => e = .returned (.tuple #[]) ∧ ∃ l' : List P, l'.Perm l ∧ SrtP l' ∧ PAt w' ob l' ∧ AsideP (fun k => k = ob) w w' := by
  subst hn
  have := Sort_c ob c l.toArray w (row_holds hr) hr.lt (by simp; omega)
  rw [List.size_toArray] at this
  refine this.mono ?_
  rintro e w' ⟨rfl, d', m, os, hp, hs, rfl⟩
  have hsz : d'.size = l.length := by have := hp.1; simpa using this
  refine ⟨rfl, d'.toList, ?_, ?_, ?_, sort_aside⟩
  · have h2 := hp.2.2
    rw [show d'.extract 0 l.length = d' by rw [← hsz]; simp, show l.toArray.extract 0 l.length = l.toArray by rw [← List.size_toArray]; simp] at h2
    exact h2
  · refine List.pairwise_iff_getElem.2 (fun i j hi hj hij => ?_)
    have := hs i j (Nat.zero_le _) hij (by rw [← hsz]; simpa using hj)
    rw [getElem!_pos d' i (by simpa using hi), getElem!_pos d' j (by simpa using hj)] at this
    simpa using this
  · exact pat_of_holds (holdsK_sortWorldK_c eP 2 w ob 0 l.toArray d' m os (row_holds hr) hr.lt (by simpa using hsz))
theorem srt_any {W : World} {base n : Nat} {u : Value} {l : List P} (h : W.ownsRow base 85 2 u n (fl eP l)) (hn : l.length = n) (hb : n ≤ 16384) : ∃ p cap, u = .slice p n cap ∧
    Calls Try.prog 39 #[.slice p n cap, .func (.func 40) #[] #[]] W fun e w' => e = .returned (.tuple #[]) ∧ ∃ l' : List P, l'.Perm l ∧ SrtP l' ∧ (0 < n → ∃ ob, p = some ⟨ob, 0, none⟩ ∧ base ≤ ob ∧ PAt w' ob l') ∧ AsideP (fun k => base ≤ k ∧ ∃ cs t, W.heap[k]? = some (.cells cs t (0, 0))) W w' := by
  rcases Nat.eq_zero_or_pos n with h0 | h0
  · obtain ⟨p, cap, rfl⟩ : ∃ p cap, u = .slice p n cap := by
      rcases h.2 with ⟨rfl, -⟩ | ⟨g, cap, cur, rfl, -⟩
      · exact ⟨none, 0, by rw [h0]⟩
      · exact ⟨_, _, rfl⟩
    subst h0
    obtain rfl : l = [] := List.length_eq_zero_iff.1 hn
    refine ⟨p, cap, rfl, (Sort_none p cap _ W).mono ?_⟩
    rintro e w' ⟨rfl, rfl⟩
    exact ⟨rfl, [], List.Perm.refl _, List.Pairwise.nil, fun h => absurd h (Nat.lt_irrefl _), AsideP.of_below (Below.refl _ _)⟩
  · obtain ⟨ob, c, T, rfl, hob, hr⟩ := own_ft eP_len h hn h0
    refine ⟨_, c, rfl, (srt_c ob c n l T W hr hn h0 hb).mono ?_⟩
    rintro e w' ⟨rfl, l', h1, h2, h3, h4⟩
    obtain ⟨t, ht⟩ := hr.box
    exact ⟨rfl, l', h1, h2, fun _ => ⟨ob, rfl, hob, h3⟩, ⟨h4.os, h4.tape, h4.output, h4.size, fun k hk hne => h4.block k hk (fun e => hne (by subst e; exact ⟨hob, _, t, ht⟩))⟩⟩
theorem cell_new1' (w : World) (x : Value) (t : TypeId) (n : Nat) (hn : n = w.heap.size) : ∀ j u, [x][j]? = some u → (w.alloc (.cells #[x] t)).cell? ((⟨n, 0, none⟩ : Addr).add j) = some u := by
  subst hn; exact cell_new1 w x t
def prs (xs : List (Int × E)) : List P := xs.map fun x => ⟨x.2.f6, x.1⟩
theorem prs_snoc (xs : List (Int × E)) (x : Int × E) : prs (xs ++ [x]) = prs xs ++ [⟨x.2.f6, x.1⟩] := by simp [prs]
theorem cell_new2 (w : World) (x y : Value) (t : TypeId) : ∀ j u, [x, y][j]? = some u → (w.alloc (.cells #[x, y] t)).cell? ((⟨w.heap.size, 0, none⟩ : Addr).add j) = some u := by
  intro j u hj
  rw [addr_at, cell_row isRow_new, rowAt_new]
  simpa using hj
set_option maxHeartbeats 4000000 in
theorem Sorted_c (F : Nat → Prop) (v : Value) (xs : List (Int × E)) (w : World) (hv : ItV F v xs w) (hx : xs.length ≤ 16384) :
    Calls Try.prog 25 #[v] w fun e w' => ∃ u l, e = .returned u ∧ l.Perm (prs xs) ∧ SrtP l ∧ w'.ownsRow (w.heap.size + 1) 3 1 u xs.length (l.map fun x => Value.int .i64 x.f1) ∧ Below w.heap.size w w' := by
  obtain ⟨gf, lb, rfl, eg, hit⟩ := hv
  obtain ⟨i0, hi, hz0, hz1, hz2⟩ := info_parts info3
  obtain ⟨i1, hi1, hy0, hy1, hy2⟩ := info_parts infoZP
  refine calls_of_wide ?_
  refine callsIn_of_wp_marks Try.func25 rfl trivial ?_ rfl
  simp only [Try.ntmps25, List.size_toArray, List.length_cons, List.length_nil, Nat.reduceAdd, Nat.reduceSub, Array.replicate_succ, Array.replicate_zero, List.push_toArray, List.append_toArray, List.nil_append, List.cons_append]
  gi_wp2_with fail
  obtain ⟨W1, hW1⟩ : ∃ W1, w.alloc (.cells #[.slice none 0 0] 83) = W1 := ⟨_, rfl⟩
  have b1 : Boxed W1 w.heap.size 83 (.slice none 0 0) := by rw [← hW1]; exact Boxed.new w 83 _
  have hB1 : Below w.heap.size w W1 := by rw [← hW1]; exact (Below.refl _ w).alloc (Nat.le_refl _) _
  have hs1 : W1.heap.size = w.heap.size + 1 := by rw [← hW1]; simp
  (try rw [hW1])
  clear hW1
  refine wp_range (Pv := NoCells) (fun _ h => h) rfl eg (hit w.heap.size W1 (Nat.le_refl _) hB1) (Below.refl _ _) (fun h k => h.trans k) (fun W l o o' _ h1 h2 => KeepC.put W l o o' h1 h2) (fun _ => rfl)
    (fun pre X => ∃ u, Boxed X w.heap.size 83 u ∧ X.ownsRow (w.heap.size + 1) 85 2 u pre.length (fl eP (prs pre)) ∧ Below w.heap.size w X) (fun _ _ _ => False)
    ?hI (fun _ => OwnP.const _ _ (fun _ => False)) ⟨_, b1, World.ownsRow_nil _ _ _ _, hB1⟩ ?round ?done ?stop
  case hI =>
    rintro pre X Y row ⟨u, h1, h2, h3⟩ hg hr
    exact ⟨u, h1.kept hg (fun er => by have := (hr _ er.symm).1; omega), h2.kept hg (own_notNo (X := Y) h2 (fun r er => (hr r er).2)), OwnP.below (β := Unit) NoCells (Nat.le_refl _) (by omega) () X Y row h3 hg hr⟩
  case round =>
    rintro l pre x post X hxs hl hlt ⟨u, hb, hrow, hB⟩
    obtain ⟨id, y⟩ := x
    have hle : pre.length + 1 ≤ 16384 := by rw [hxs] at hx; simp at hx; omega
    gi_wp2
    have hbe : Below X.heap.size X ((X.alloc (.cells #[.bool false, .bool false, .bool false, .bool false, .bool false, .int .i64 0, .int .i64 0, .string ⟨#[]⟩] 35)).setRow X.heap.size (vE y)) := below_setRow ((Below.refl _ X).alloc (Nat.le_refl _) _) (Nat.le_refl _) _
    have hgr : X.grownBy ((X.alloc (.cells #[.bool false, .bool false, .bool false, .bool false, .bool false, .int .i64 0, .int .i64 0, .string ⟨#[]⟩] 35)).setRow X.heap.size (vE y)) none := grown_of_below hbe none
    refine ⟨KeepsFrom.low hbe, KeepC.low hbe, ⟨u, hb.kept hgr (by simp), hrow.kept hgr (own_notNo (X := X) hrow (fun r er => by cases er)), hB.trans (hbe.mono hB.size)⟩, ?_⟩
    have r7 : Row ((X.alloc (.cells #[.bool false, .bool false, .bool false, .bool false, .bool false, .int .i64 0, .int .i64 0, .string ⟨#[]⟩] 35)).setRow X.heap.size (vE y)) X.heap.size (vE y) := Row.setRow isRow_new
    have lbX := hb.lt
    clear hb hB hrow hbe hgr
    rintro X2 hg2
    obtain ⟨d7, d7'⟩ := Row.kept r7 hg2 (by intro e; cases e; omega)
    clear r7 hg2 hxs hlt hl
    rintro ⟨u, hb, hrow, hB⟩
    have hc := hb.cell
    have lz := hb.lt
    gi_wp2_with (gi_at_builtin; refine wpListIn_append_own _ rfl _ _ 83 rfl (w.heap.size + 1) 85 i1 (.agg (vP zP)) 2 16 Try.underlying83 hi1 hy0 hy1 hy2 rfl (by decide) _ _ _ rfl (hrow.alloc _) ⟨X2.heap.size, 0, none⟩ 1 1 [.int .i64 y.f6, .int .i64 id] rfl rfl (cell_new2 _ _ _ _) (by simp [Value.oneCell']) (by unfold maxLen; omega) (by omega) (by simp; omega) ?_; intro v' w1 hown' hgrow _; obtain ⟨g', cap', rfl⟩ := ownsRow_succ hown'; obtain ⟨hv1, hv2, hr2, hk2, hb2, hs2⟩ := box_append hb (by decide) hrow hown' hgrow; have hc1 := hv1.cell; have hf1 := hv1.frozen; have hc2 := hv2.cell)
    refine ⟨hk2.from _, ?_, ⟨_, hv2, ?_, hB.trans (hb2 _ (by omega) (by omega) (by omega))⟩⟩
    · exact (KeepC.append (F := F) hb (by decide) (by decide) (.inl (Nat.le_refl _)) (ownsRow_lower hrow (by omega)) hgrow)
    · rw [prs_snoc, fl_append, List.length_append]
      exact hr2
  case done =>
    rintro D X hD ⟨u, hb, hrow, hB⟩ hK
    obtain ⟨p, cap, rfl, hsort⟩ := srt_any (l := prs xs) hrow (by simp [prs]) hx
    have hc := hb.cell
    have lB := hb.lt
    have hbx : BoxN X w.heap.size 83 #[.slice p xs.length cap] := hb
    clear hrow hb
    gi_wp2_with fail
    refine (in_of_calls hsort).mono ?_
    rintro e w2 ⟨rfl, l', hp, hsr, hpat, hA⟩
    have hc2 : w2.cell? ⟨w.heap.size, 0, none⟩ = some (.slice p xs.length cap) := by
      have : BoxN w2 w.heap.size 83 #[.slice p xs.length cap] := (hA.block _ lB (fun h => by have := h.1; omega)).trans hbx
      exact this.cell (i := 0) rfl
    have hK2 : w2.heap[D]? = some (.deferred (some [])) := (hA.block D (Array.getElem?_eq_some_iff.1 hK).1 (fun h => by obtain ⟨-, cs, t, h2⟩ := h; rw [hK] at h2; cases h2)).trans hK
    have hB2 : Below w.heap.size w w2 := hA.below hB (fun k h => by have := h.1; omega) hB.size
    have hD2 : D < w2.heap.size := (Array.getElem?_eq_some_iff.1 hK2).1
    have hl' : l'.length = xs.length := by rw [hp.length_eq]; simp [prs]
    clear hA hbx hc hK hB hsort lB
    have HP := Lib.hid hpat
    have HQ := Lib.hid (And.intro hp hsr)
    clear hpat hp hsr
    gi_wp2
    gi_loopw [6, 24] (fun p q wr => ∃ k : Nat, k ≤ xs.length ∧ q = .int .i64 k ∧ wr.ownsRow w2.heap.size 3 1 p k ((l'.take k).map fun x => Value.int .i64 x.f1) ∧ Below w2.heap.size w2 wr) (fun _ q _ => xs.length - (intOf q).toNat)
    case atStart => exact ⟨0, by omega, rfl, World.ownsRow_nil _ _ _ _, Below.refl _ _⟩
    case round =>
      obtain ⟨k, hk, rfl, hrow, hBB⟩ := hrel
      by_cases hlt : k < xs.length
      · have k1 : (k : Int) < xs.length := by omega
        have k0 : (0 : Int) ≤ k := by omega
        have k2 : decide ((k : Int) < xs.length) = true := decide_eq_true k1
        have w3 : IntKind.i64.wrap ((k : Int) + 1) = (k : Int) + 1 := IntWalk.i64_in _ (by omega)
        obtain ⟨ob, rfl, hob, hpat⟩ := HP.out (by omega)
        have hget : l'[k]? = some l'[k] := List.getElem?_eq_getElem (by omega)
        generalize l'[k] = x at hget
        obtain ⟨c0, c1⟩ := hpat k x hget
        have lo : ob < w2.heap.size := World.block_lt_of_cell? w2 _ c0
        replace c0 := (World.cell?_of_block (a := ⟨ob, k * 2, none⟩) (hBB.block ob lo)).trans c0
        replace c1 := (World.cell?_of_block (a := ⟨ob, k * 2 + 1, none⟩) (hBB.block ob lo)).trans c1
        have HT := Lib.hid (show l'.take (k + 1) = l'.take k ++ [x] by rw [List.take_add_one, hget]; rfl)
        have lw := hBB.size
        have hbe : Below wr.heap.size wr ((wr.alloc (.cells #[.int .i64 0, .int .i64 0] 85)).setRow wr.heap.size #[.int .i64 x.f0, .int .i64 x.f1]) := below_setRow ((Below.refl _ wr).alloc (Nat.le_refl _) _) (Nat.le_refl _) _
        have hro := hrow.kept (grown_of_below hbe none) (own_notNo (X := wr) hrow (fun r er => by cases er))
        have HRO := Lib.hid hro
        clear hget hpat hk hro hbe hrow hc2
        gi_wp2_with (gi_at_builtin; refine wpListIn_append_own _ rfl _ _ 51 rfl w2.heap.size 3 i0 (.int .i64 0) 1 8 Try.underlying51 hi hz0 hz1 hz2 rfl (by decide) _ _ _ rfl (HRO.out.alloc _) ⟨_, 0, none⟩ 1 1 [.int .i64 x.f1] rfl rfl (cell_new1' _ _ _ _ (by simp)) (by simp [Value.oneCell']) (by unfold maxLen; omega) (by omega) (by simp; omega) ?_; intro v' w1 hown' hgrow _; obtain ⟨g', cap', rfl⟩ := ownsRow_succ hown')
        refine ⟨⟨k + 1, by omega, congrArg (Value.int .i64) (by omega), ?_, ?_⟩, by simp [intOf]; omega⟩
        · rw [HT.out, List.map_append]
          exact hown'
        · have hz : ((wr.alloc (.cells #[.int .i64 0, .int .i64 0] 85)).setRow wr.heap.size #[.int .i64 x.f0, .int .i64 x.f1]).heap.size = wr.heap.size + 1 := by simp
          refine Below.grown (((hBB.trans ((below_setRow ((Below.refl _ wr).alloc (Nat.le_refl _) _) (Nat.le_refl _) _).mono lw))).alloc (by rw [hz]; omega) _) hgrow (by simp; omega) (fun j ej => own_base HRO.out j ej)
      · obtain rfl : k = xs.length := by omega
        have k2 : decide ((xs.length : Int) < xs.length) = false := decide_eq_false (by omega)
        rw [List.take_of_length_le (by omega)] at hrow
        have hK3 : wr.heap[D]? = some (.deferred (some [])) := (hBB.block D hD2).trans hK2
        clear hK2 hc2
        gi_wp2
        refine leave_mark hK3 (by simp [results, Try.results25, go_sem]; rfl) ⟨_, l', rfl, HQ.out.1, HQ.out.2, ?_, below_putD (hB2.trans (hBB.mono hB2.size)) (by omega) _⟩
        refine ownsRow_lower (hrow.kept (grownBy_putObj' _ _ _) (own_notNo (X := wr) hrow (fun r er => ?_))) (by have := hB2.size; omega)
        obtain rfl := Option.some.inj er
        exact ⟨_, hK3, rfl⟩
  case stop =>
    rintro D c pre x post X _ _ h _
    exact h.elim
end Go.Proofs.Ytbglgblngfbhbaa.Bk

namespace Go.Proofs.Ytbglgblngfbhbaa.Bk
open Go.RowKit Go.Shelf Go.Proofs.Ytbglgblngfbhbaa.IAll Go.Proofs.YtbglgblngfbhbaaW.PrintWords Go.Proofs.YtbglgblngfbhbaaW.PrintLast Go.Proofs.YtbglgblngfbhbaaW.PrintMore
set_option linter.unusedVariables false
set_option linter.unusedSectionVars false
set_option linter.unusedSimpArgs false
attribute [local go_sem] Oper.semAt_some cell_row frozen_row isRow_setCell_eq rowAt_setCell_same rowAt_setCell_other isRow_alloc_eq rowAt_alloc rowAt_new rowAt_new' isRow_setRow_eq rowAt_setRow_same rowAt_setRow_other isRow_drew rowAt_drew size_setRow_ size_drew_ blk_ptr aggOf_agg offv_ptr below_alloc_e below_setCell_e below_setRow_e below_refl_e below_drew_r isRow_drewN rowAt_drewN below_drewN_e le_add_r asideP_alloc_e asideP_setCell_e asideP_setRow_e asideP_drew_e asideP_drewN_e asideP_refl_e allOne_nil allOne_cons Value.oneCell' addr_at mid_FT vE_size vL_size vQ_size vC_size vS_size vP_size vE_one vL_one vQ_one vC_one vS_one vP_one mid_spl spl_size spl_spl mid_vE vE_ext4 vE_ext7 vE_ext8 vE_0 vE_1 vE_2 vE_3 vE_4 vE_5 vE_6 vE_7 vL_0 vL_1 vL_2 vL_3 vL_4 vL_5 vL_6
attribute [local go_sem ↓] loadE storeE loadEm storeEm loadEg storeEg loadEmg storeEmg loadL storeL loadLm storeLm loadQ storeQ loadQm storeQm loadC storeC loadCg storeCg loadS storeS loadSm loadP storeP loadPm loadPg storePg 
set_option maxRecDepth 100000

theorem at_c (gr c c' n : Nat) (A A' : Option Addr) (first id : Int) (w : World) (hr : Row w gr #[.int .i64 first, .slice A n c, .slice A' n c']) (h0 : 0 ≤ first) (h1 : first + n ≤ 16384) :
    Calls Try.prog 15 #[.pointer (some ⟨gr, 0, none⟩), .int .i64 id] w fun e w' => e = .returned (.int .i64 (if hasB first n id then id - first else -1)) ∧ Below w.heap.size w w' := by
  obtain ⟨hg, hg'⟩ := hr
  generalize hz : (if hasB first n id then id - first else -1) = r
  have HZ := Lib.hid hz
  clear hz
  go_enter Try.func15, Try.ntmps15
  go_wp2
  go_loopw [5] (fun q wr => ∃ k : Nat, k ≤ n ∧ q = .int .i64 k ∧ Row wr gr #[.int .i64 first, .slice A n c, .slice A' n c'] ∧ (∀ j : Nat, j < k → id ≠ first + j) ∧ Below w.heap.size w wr) (fun q _ => n - (intOf q).toNat)
  case atStart => exact ⟨0, by omega, rfl, ⟨hg, hg'⟩, (by intro j hj; omega), Below.refl _ _⟩
  case round =>
    obtain ⟨k, hk, rfl, ⟨G1, G1'⟩, hno, hB⟩ := hrel
    clear hg hg'
    by_cases hlt : k < n
    · have k1 : (k : Int) < n := by omega
      have k0 : (0 : Int) ≤ k := by omega
      have k2 : decide ((k : Int) < n) = true := decide_eq_true k1
      have w3 : IntKind.i64.wrap ((k : Int) + 1) = (k : Int) + 1 := IntWalk.i64_in _ (by omega)
      have w4 : IntKind.i64.wrap (first + (k : Int)) = first + k := IntWalk.i64_in _ (by omega)
      by_cases he : first + (k : Int) = id
      · have u : (first + (k : Int) == id) = true := by simpa using he
        have HE := Lib.hid he
        have HL := Lib.hid hlt
        clear he hno
        go_wp2
        go_ret
        refine ⟨?_, hB⟩
        rw [← HZ.out, ← HE.out, hasB_at HL.out, if_pos rfl]
        have : first + (k : Int) - first = k := by omega
        rw [this]
        rfl
      · have u : (first + (k : Int) == id) = false := by simpa using he
        have HN := Lib.hid hno
        have HE := Lib.hid he
        clear he hno
        go_wp2
        go_roundw
        case rel =>
          refine ⟨k + 1, by omega, congrArg (Value.int .i64) (by omega), ⟨by go_simp, by go_simp⟩, ?_, hB⟩
          intro j hj
          rcases (show j < k ∨ j = k by omega) with h | rfl
          · exact HN.out j h
          · exact fun e => HE.out e.symm
        case measure => simp [intOf]; omega
    · obtain rfl : k = n := by omega
      have k2 : decide ((k : Int) < k) = false := decide_eq_false (by omega)
      have HN := Lib.hid hno
      clear hno
      go_wp2
      go_ret
      refine ⟨?_, hB⟩
      rw [← HZ.out, hasB_no HN.out]
      rfl
theorem rstep_is (s : Q) (x : Int) : crierref07_Step.f 10 s.f0 s.f1 s.f2 s.f3 x = some ((stp s x).f0, (stp s x).f1, (stp s x).f2, (stp s x).f3) := by
  rw [← step_is]
  obtain ⟨e, l, h, a⟩ := s
  by_cases hx : x < 1 ∨ x > 9
  · have h1 : ¬ x = 1 := by omega
    have h2 : ¬ x = 2 := by omega
    have h3 : ¬ x = 3 := by omega
    have h4 : ¬ x = 4 := by omega
    have h5 : ¬ x = 5 := by omega
    have h6 : ¬ x = 6 := by omega
    have h7 : ¬ x = 7 := by omega
    have h8 : ¬ x = 8 := by omega
    have h9 : ¬ x = 9 := by omega
    simp [crierref07_Step.f, crierref07_Step.j0, crierref07_Step.j1, crierref07_Step.j2, crierref07_Step.j3, crierref07_Step.j4, crierref07_Step.j5, crierref07_Step.j6, irq_Step.f, h1, h2, h3, h4, h5, h6, h7, h8, h9]
  · obtain rfl | rfl | rfl | rfl | rfl | rfl | rfl | rfl | rfl : x = 1 ∨ x = 2 ∨ x = 3 ∨ x = 4 ∨ x = 5 ∨ x = 6 ∨ x = 7 ∨ x = 8 ∨ x = 9 := by omega
    all_goals (cases e <;> cases l <;> cases h <;> cases a <;> rfl)
theorem rstep_c (s : Q) (x : Int) (w : World) : Calls Try.prog 55 #[.agg (vQ s), .int .i64 x] w fun e w' => e = .returned (.agg (vQ (stp s x))) ∧ Below w.heap.size w w' := crierref07_Step.calls 10 _ _ _ _ x _ _ _ _ w (rstep_is s x)
theorem rready_is (s : Q) : crierref07_Ready.f s.f0 s.f1 s.f2 s.f3 = some (ready s) := by obtain ⟨e, l, h, a⟩ := s; cases e <;> cases l <;> cases h <;> cases a <;> rfl
theorem rready_c (s : Q) (w : World) : Calls Try.prog 48 #[.agg (vQ s)] w fun e w' => e = .returned (.bool (ready s)) ∧ Below w.heap.size w w' := crierref07_Ready.calls _ _ _ _ _ w (rready_is s)
theorem rreal_all : ∀ p : Fin 256, crierref06_Real.f 10 (p.val : Int) = some (realP (p.val : Int)) := by decide +kernel
theorem rreal_is {p : Int} (h0 : 0 ≤ p) (h1 : p ≤ 255) : crierref06_Real.f 10 p = some (realP p) := by
  have := rreal_all ⟨p.toNat, by omega⟩
  simpa [show ((p.toNat : Nat) : Int) = p by omega] using this
theorem rreal_c {p : Int} (h0 : 0 ≤ p) (h1 : p ≤ 255) (w : World) : Calls Try.prog 54 #[.int .i64 p] w fun e w' => e = .returned (.int .i64 (realP p)) ∧ Below w.heap.size w w' := (crierref06_Real.calls 10 p _ w (rreal_is h0 h1)).mono fun _ _ q => ⟨q.1, below_drawn0 q.2⟩
end Go.Proofs.Ytbglgblngfbhbaa.Bk

namespace Go.Proofs.Ytbglgblngfbhbaa.Bk
open Go.RowKit Go.Shelf Go.Proofs.Ytbglgblngfbhbaa.IAll Go.Proofs.YtbglgblngfbhbaaW.PrintWords Go.Proofs.YtbglgblngfbhbaaW.PrintLast Go.Proofs.YtbglgblngfbhbaaW.PrintMore
set_option linter.unusedVariables false
set_option linter.unusedSectionVars false
set_option linter.unusedSimpArgs false
attribute [local go_sem] Oper.semAt_some cell_row frozen_row isRow_setCell_eq rowAt_setCell_same rowAt_setCell_other isRow_alloc_eq rowAt_alloc rowAt_new rowAt_new' isRow_setRow_eq rowAt_setRow_same rowAt_setRow_other isRow_drew rowAt_drew size_setRow_ size_drew_ blk_ptr aggOf_agg offv_ptr below_alloc_e below_setCell_e below_setRow_e below_refl_e below_drew_r isRow_drewN rowAt_drewN below_drewN_e le_add_r asideP_alloc_e asideP_setCell_e asideP_setRow_e asideP_drew_e asideP_drewN_e asideP_refl_e allOne_nil allOne_cons Value.oneCell' addr_at mid_FT vE_size vL_size vQ_size vC_size vS_size vP_size vE_one vL_one vQ_one vC_one vS_one vP_one mid_spl spl_size spl_spl mid_vE vE_ext4 vE_ext7 vE_ext8 vE_0 vE_1 vE_2 vE_3 vE_4 vE_5 vE_6 vE_7 vL_0 vL_1 vL_2 vL_3 vL_4 vL_5 vL_6
attribute [local go_sem ↓] loadE storeE loadEm storeEm loadEg storeEg loadEmg storeEmg loadL storeL loadLm storeLm loadQ storeQ loadQm storeQm loadC storeC loadCg storeCg loadS storeS loadSm loadP storeP loadPm loadPg storePg 
set_option maxRecDepth 100000

def eEL (x : E) : List Value := eL x.l
def eEX (x : E) : List Value := [.string x.f7]
theorem eEL_len (x : E) : (eEL x).length = 7 := rfl
theorem eEX_len (x : E) : (eEX x).length = 1 := rfl
theorem vL_ext4 {x : L} : (vL x).extract 0 4 = vQ ⟨x.f0, x.f1, x.f2, x.f3⟩ := rfl
theorem rPut_miss (gr c c' n : Nat) (A A' : Option Addr) (first id : Int) (x : L) (s : ByteArray) (w : World) (hr : Row w gr #[.int .i64 first, .slice A n c, .slice A' n c']) (h0 : 0 ≤ first) (h1 : first + n ≤ 16384) (hh : hasB first n id = false) :
    Calls Try.prog 46 #[.pointer (some ⟨gr, 0, none⟩), .int .i64 id, .agg (vL x), .string s] w fun e w' => e = .returned (.int .i64 90) ∧ Below w.heap.size w w' := by
  have HH := Lib.hid (fun (W : World) (h : Row W gr #[.int .i64 first, .slice A n c, .slice A' n c']) => at_c gr c c' n A A' first id W h h0 h1)
  rw [hh] at HH
  have lg := hr.lt
  obtain ⟨hg, hg'⟩ := hr
  have n1 : ¬ gr = w.heap.size := by omega
  have n2 : ¬ w.heap.size = gr := by omega
  go_enter Try.func46, Try.ntmps46
  have hB_0 : Below w.heap.size w w := Below.refl _ _
  have ne_G_X : ¬ gr = w.heap.size := by omega
  have en_G_X : ¬ w.heap.size = gr := by omega
  go_wp2_with fail
  refine (HH.out _ ⟨by go_simp, by go_simp⟩).mono ?_
  rintro e v1 ⟨rfl, hb1⟩
  obtain ⟨G_1, G_1'⟩ : Row v1 gr #[.int .i64 first, .slice A n c, .slice A' n c'] := Row.step (by go_simp) (by go_simp) hb1
  obtain ⟨X_1, X_1'⟩ : Row v1 w.heap.size (vL x) := Row.step (by go_simp) (by go_simp) hb1
  have hB_1 : Below w.heap.size w v1 := bk (by go_simp) (by first | (go_simp; done) | (go_simp; omega) | exact Below.size (by assumption)) hb1
  clear hg hg' hB_0 hb1
  have hz_1 : w.heap.size ≤ v1.heap.size := hB_1.size
  have hl_G_1 := isRow.lt G_1
  have ne_G_1_0 : ¬ gr = v1.heap.size := by omega
  have en_G_1_0 : ¬ v1.heap.size = gr := by omega
  have hl_X_1 := isRow.lt X_1
  have ne_X_1_0 : ¬ w.heap.size = v1.heap.size := by omega
  have en_X_1_0 : ¬ v1.heap.size = w.heap.size := by omega
  go_wp2
  go_ret
  exact ⟨rfl, by go_simp⟩
theorem rPut_bad (gr c c' n : Nat) (A A' : Option Addr) (first id : Int) (x : L) (s : ByteArray) (w : World) (hr : Row w gr #[.int .i64 first, .slice A n c, .slice A' n c']) (h0 : 0 ≤ first) (h1 : first + n ≤ 16384) (hh : hasB first n id = true) (hx : ¬ ((x.f5 = 0 ∨ x.f5 = 1) ∧ 0 ≤ x.f6 ∧ x.f6 ≤ 255)) :
    Calls Try.prog 46 #[.pointer (some ⟨gr, 0, none⟩), .int .i64 id, .agg (vL x), .string s] w fun e w' => e = .returned (.int .i64 1) ∧ Below w.heap.size w w' := by
  have HH := Lib.hid (fun (W : World) (h : Row W gr #[.int .i64 first, .slice A n c, .slice A' n c']) => at_c gr c c' n A A' first id W h h0 h1)
  rw [hh, if_pos rfl] at HH
  obtain ⟨k, hk, rfl⟩ := hasB_yes hh
  rw [show first + (k : Int) - first = k by omega] at HH
  have k0 : decide ((k : Int) < 0) = false := decide_eq_false (by omega)
  have lg := hr.lt
  obtain ⟨hg, hg'⟩ := hr
  have n1 : ¬ gr = w.heap.size := by omega
  have n2 : ¬ w.heap.size = gr := by omega
  clear hh hk
  go_enter Try.func46, Try.ntmps46
  have hB_0 : Below w.heap.size w w := Below.refl _ _
  have ne_G_X : ¬ gr = w.heap.size := by omega
  have en_G_X : ¬ w.heap.size = gr := by omega
  go_wp2_with fail
  refine (HH.out _ ⟨by go_simp, by go_simp⟩).mono ?_
  rintro e v1 ⟨rfl, hb1⟩
  obtain ⟨G_1, G_1'⟩ : Row v1 gr #[.int .i64 first, .slice A n c, .slice A' n c'] := Row.step (by go_simp) (by go_simp) hb1
  obtain ⟨X_1, X_1'⟩ : Row v1 w.heap.size (vL x) := Row.step (by go_simp) (by go_simp) hb1
  have hB_1 : Below w.heap.size w v1 := bk (by go_simp) (by first | (go_simp; done) | (go_simp; omega) | exact Below.size (by assumption)) hb1
  clear hg hg' hB_0 hb1
  have hz_1 : w.heap.size ≤ v1.heap.size := hB_1.size
  have hl_G_1 := isRow.lt G_1
  have ne_G_1_0 : ¬ gr = v1.heap.size := by omega
  have en_G_1_0 : ¬ v1.heap.size = gr := by omega
  have hl_X_1 := isRow.lt X_1
  have ne_X_1_0 : ¬ w.heap.size = v1.heap.size := by omega
  have en_X_1_0 : ¬ v1.heap.size = w.heap.size := by omega
  by_cases t0 : x.f5 = 0
  · have u0 : (x.f5 != 0) = false := by simp [t0]
    by_cases t3 : x.f6 < 0
    · have u3 := decide_eq_true t3
      clear t0 t3 hx
      go_wp2
      go_ret
      exact ⟨rfl, by go_simp⟩
    have t4 : 255 < x.f6 := by omega
    have u3 := decide_eq_false t3
    have u4 := decide_eq_true t4
    clear t0 t3 t4 hx
    go_wp2
    go_ret
    exact ⟨rfl, by go_simp⟩
  have u0 : (x.f5 != 0) = true := by simpa using t0
  by_cases t1 : x.f5 = 1
  · have u1 : (x.f5 != 1) = false := by simp [t1]
    by_cases t3 : x.f6 < 0
    · have u3 := decide_eq_true t3
      clear t0 t1 t3 hx
      go_wp2
      go_ret
      exact ⟨rfl, by go_simp⟩
    have t4 : 255 < x.f6 := by omega
    have u3 := decide_eq_false t3
    have u4 := decide_eq_true t4
    clear t0 t1 t3 t4 hx
    go_wp2
    go_ret
    exact ⟨rfl, by go_simp⟩
  have u1 : (x.f5 != 1) = true := by simpa using t1
  clear t0 t1 hx
  go_wp2
  go_ret
  exact ⟨rfl, by go_simp⟩
set_option maxHeartbeats 2000000 in
theorem rPut_hit0 (gr c c' n ll xl : Nat) (first : Int) (d : List E) (T T' : List Value) (k : Nat) (x : E) (w : World) (hn : d.length = n) (hr : Row w gr #[.int .i64 first, .slice (some ⟨ll, 0, none⟩) n c, .slice (some ⟨xl, 0, none⟩) n c']) (hl : Row w ll (FT eEL d T)) (hxl : Row w xl (FT eEX d T'))
    (m1 : ¬ gr = ll) (m2 : ¬ gr = xl) (m3 : ¬ ll = xl) (hk : k < n) (h0 : 0 ≤ first) (h1 : first + n ≤ 16384) (hx : x.f5 = 0 ∧ 0 ≤ x.f6 ∧ x.f6 ≤ 255) :
    Calls Try.prog 46 #[.pointer (some ⟨gr, 0, none⟩), .int .i64 (first + k), .agg (vL x.l), .string x.f7] w fun e w' => e = .returned (.int .i64 0) ∧ Row w' ll (FT eEL (d.set k (setE x)) T) ∧ Row w' xl (FT eEX (d.set k (setE x)) T') ∧ AsideP (fun j => j = ll ∨ j = xl) w w' := by
  have HH := Lib.hid (fun (W : World) (h : Row W gr #[.int .i64 first, .slice (some ⟨ll, 0, none⟩) n c, .slice (some ⟨xl, 0, none⟩) n c']) => at_c gr c c' n _ _ first (first + k) W h h0 h1)
  rw [hasB_at hk, if_pos rfl, show first + (k : Int) - first = k by omega] at HH
  have hget : d[k]? = some d[k] := List.getElem?_eq_getElem (by omega)
  have hget2 : (d.set k (setE x))[k]? = some (setE x) := by rw [List.getElem?_set_self (by omega)]
  obtain ⟨N, hN⟩ : ∃ N, (FT eEL d T).size = N := ⟨_, rfl⟩
  have hs : k * 7 + 7 ≤ N := by rw [← hN, FT_size eEL_len]; omega
  have hspl : spl (FT eEL d T) (k * 7) (vL (setE x).l) = FT eEL (d.set k (setE x)) T := FT_spl eEL_len hget (Nat.le_refl _) rfl
  have hspl2 : spl (FT eEL (d.set k (setE x)) T) (k * 7) (vL (setE x).l) = FT eEL (d.set k (setE x)) T := (FT_spl eEL_len hget2 (Nat.le_refl _) rfl).trans (by rw [List.set_set])
  have hN2 : (FT eEL (d.set k (setE x)) T).size = N := by rw [← hN, FT_size eEL_len, FT_size eEL_len, List.length_set]
  have hsx : k < (FT eEX d T').size := by rw [FT_size eEX_len]; omega
  have hset : (FT eEX d T').setIfInBounds k (.string x.f7) = FT eEX (d.set k (setE x)) T' := by
    have := FT_set (T := T') (y := setE x) (v := .string x.f7) eEX_len hget (show 0 < 1 by decide) rfl
    rwa [show k * 1 + 0 = k by omega] at this
  have hcell : (FT eEX d T')[k]? = some (.string d[k].f7) := by
    have := FT_at (T := T') eEX_len hget (show 0 < 1 by decide)
    rwa [show k * 1 + 0 = k by omega] at this
  have k0 : (0 : Int) ≤ k := by omega
  have k1 : (k : Int) < n := by omega
  have k2 : decide ((k : Int) < 0) = false := decide_eq_false (by omega)
  generalize d[k] = y at *
  clear hget hget2 h0 hk
  have lg := hr.lt
  have la := hl.lt
  have lx := hxl.lt
  obtain ⟨hg, hg'⟩ := hr
  obtain ⟨hl, hl'⟩ := hl
  obtain ⟨hxl, hxl'⟩ := hxl
  have m1' : ¬ ll = gr := fun e => m1 e.symm
  have m2' : ¬ xl = gr := fun e => m2 e.symm
  have m3' : ¬ xl = ll := fun e => m3 e.symm
  have a5 : (vL x.l)[5]? = some (.int .i64 x.f5) := rfl
  have a6 : (vL x.l)[6]? = some (.int .i64 x.f6) := rfl
  obtain ⟨g5, g6, g7⟩ := hx
  have HR := Lib.hid (fun (W : World) => rreal_c g6 g7 W)
  have u3 : decide (x.f6 < 0) = false := decide_eq_false (by omega)
  have u4 : decide (255 < x.f6) = false := decide_eq_false (by omega)
  clear g6 g7
  have hfold : (vL x.l).setIfInBounds 6 (.int .i64 (realP x.f6)) = vL (setE x).l := rfl
  have hX : AsideP (fun j => j = ll ∨ j = xl) w w := .of_below (Below.refl _ _)
  go_enter Try.func46, Try.ntmps46
  have hB_0 : Below w.heap.size w w := Below.refl _ _
  have ne_G_X : ¬ gr = w.heap.size := by omega
  have en_G_X : ¬ w.heap.size = gr := by omega
  have ne_L_X : ¬ ll = w.heap.size := by omega
  have en_L_X : ¬ w.heap.size = ll := by omega
  have ne_Y_X : ¬ xl = w.heap.size := by omega
  have en_Y_X : ¬ w.heap.size = xl := by omega
  go_wp2_with fail
  refine (HH.out _ ⟨by go_simp, by go_simp⟩).mono ?_
  rintro e v1 ⟨rfl, hb1⟩
  obtain ⟨G_1, G_1'⟩ : Row v1 gr #[.int .i64 first, .slice (some ⟨ll, 0, none⟩) n c, .slice (some ⟨xl, 0, none⟩) n c'] := Row.step (by go_simp) (by go_simp) hb1
  obtain ⟨L_1, L_1'⟩ : Row v1 ll (FT eEL d T) := Row.step (by go_simp) (by go_simp) hb1
  obtain ⟨Y_1, Y_1'⟩ : Row v1 xl (FT eEX d T') := Row.step (by go_simp) (by go_simp) hb1
  obtain ⟨X_1, X_1'⟩ : Row v1 w.heap.size (vL x.l) := Row.step (by go_simp) (by go_simp) hb1
  have hB_1 : AsideP (fun j => j = ll ∨ j = xl) w v1 := AsideP.low (by go_simp) hb1
  clear hg hg' hl hl' hxl hxl' hX hb1
  have hz_1 : w.heap.size ≤ v1.heap.size := hB_1.size
  have hl_G_1 := isRow.lt G_1
  have ne_G_1_0 : ¬ gr = v1.heap.size := by omega
  have en_G_1_0 : ¬ v1.heap.size = gr := by omega
  have hl_L_1 := isRow.lt L_1
  have ne_L_1_0 : ¬ ll = v1.heap.size := by omega
  have en_L_1_0 : ¬ v1.heap.size = ll := by omega
  have hl_Y_1 := isRow.lt Y_1
  have ne_Y_1_0 : ¬ xl = v1.heap.size := by omega
  have en_Y_1_0 : ¬ v1.heap.size = xl := by omega
  have hl_X_1 := isRow.lt X_1
  have ne_X_1_0 : ¬ w.heap.size = v1.heap.size := by omega
  have en_X_1_0 : ¬ v1.heap.size = w.heap.size := by omega
  have u0 : (x.f5 != 0) = false := by simp [g5]
  go_wp2_with fail
  refine (HR.out _).mono ?_
  rintro e v2 ⟨rfl, hb2⟩
  obtain ⟨G_2, G_2'⟩ : Row v2 gr #[.int .i64 first, .slice (some ⟨ll, 0, none⟩) n c, .slice (some ⟨xl, 0, none⟩) n c'] := Row.step (by go_simp) (by go_simp) hb2
  obtain ⟨L_2, L_2'⟩ : Row v2 ll (FT eEL d T) := Row.step (by go_simp) (by go_simp) hb2
  obtain ⟨Y_2, Y_2'⟩ : Row v2 xl (FT eEX d T') := Row.step (by go_simp) (by go_simp) hb2
  obtain ⟨X_2, X_2'⟩ : Row v2 w.heap.size (vL x.l) := Row.step (by go_simp) (by go_simp) hb2
  have hB_2 : AsideP (fun j => j = ll ∨ j = xl) w v2 := AsideP.low (by go_simp) hb2
  clear G_1 G_1' L_1 L_1' Y_1 Y_1' X_1 X_1' hB_1 hb2
  have hz_2 : w.heap.size ≤ v2.heap.size := hB_2.size
  have hl_G_2 := isRow.lt G_2
  have ne_G_2_0 : ¬ gr = v2.heap.size := by omega
  have en_G_2_0 : ¬ v2.heap.size = gr := by omega
  have hl_L_2 := isRow.lt L_2
  have ne_L_2_0 : ¬ ll = v2.heap.size := by omega
  have en_L_2_0 : ¬ v2.heap.size = ll := by omega
  have hl_Y_2 := isRow.lt Y_2
  have ne_Y_2_0 : ¬ xl = v2.heap.size := by omega
  have en_Y_2_0 : ¬ v2.heap.size = xl := by omega
  have hl_X_2 := isRow.lt X_2
  have ne_X_2_0 : ¬ w.heap.size = v2.heap.size := by omega
  have en_X_2_0 : ¬ v2.heap.size = w.heap.size := by omega
  have hm : Mid (rowAt v2 ll) := trivial
  have hz : (rowAt v2 ll).size = N := by rw [L_2', hN]
  have hq : spl (rowAt v2 ll) (k * 7) (vL (setE x).l) = FT eEL (d.set k (setE x)) T := by rw [L_2']; exact hspl
  go_wp2
  refine wp_region_held_drew (S := fun w' => (isRow w' gr ∧ rowAt w' gr = #[.int .i64 first, .slice (some ⟨ll, 0, none⟩) n c, .slice (some ⟨xl, 0, none⟩) n c']) ∧ (isRow w' ll ∧ (rowAt w' ll).size = N) ∧ (isRow w' xl ∧ rowAt w' xl = FT eEX d T') ∧ (isRow w' w.heap.size ∧ rowAt w' w.heap.size = vL (setE x).l) ∧ Mid (rowAt w' ll) ∧ spl (rowAt w' ll) (k * 7) (vL (setE x).l) = FT eEL (d.set k (setE x)) T ∧ AsideP (fun j => j = ll ∨ j = xl) w w') (by kernel_rfl) ⟨⟨by go_simp, by go_simp⟩, ⟨by go_simp, by go_simp⟩, ⟨by go_simp, by go_simp⟩, ⟨by go_simp, by go_simp⟩, by first | exact hm | (go_simp; done), by first | exact hq | (go_simp; done), by go_simp⟩ (fun hHeld => ?_)
  refine wpAnyH_take (i := 0) (oi := ⟨some 37, .move (.tmp 0), 27, "ref.go:50", #[], none⟩) (v := ?_) rfl (by kernel_rfl) (by kernel_rfl) (by kernel_rfl) (fun _ _ _ h => h) (Or.inl ⟨by rfl, ?_⟩) (by assumption) ?_
  rotate_left
  · (intro w_ hS_; (try dsimp only at hS_); go_simp; try with_reducible rfl)
  try simp only [Act.put, List.setIfInBounds_toArray, List.set_cons_zero, List.set_cons_succ]
  refine wpAnyH_take (i := 1) (oi := ⟨some 38, .nilCheck (.tmp 37), 0, "ref.go:50", #[⟨0, .data⟩], none⟩) (v := ?_) rfl (by kernel_rfl) (by kernel_rfl) (by kernel_rfl) (fun _ _ _ h => h) (Or.inl ⟨by rfl, ?_⟩) (by assumption) ?_
  rotate_left
  · (intro w_ hS_; (try dsimp only at hS_); go_simp; try with_reducible rfl)
  try simp only [Act.put, List.setIfInBounds_toArray, List.set_cons_zero, List.set_cons_succ]
  refine wpAnyH_take (i := 2) (oi := ⟨some 39, .fieldAddr 78 (.tmp 38) 1, 0, "ref.go:50", #[⟨1, .data⟩], none⟩) (v := ?_) rfl (by kernel_rfl) (by kernel_rfl) (by kernel_rfl) (fun _ _ _ h => h) (Or.inl ⟨by rfl, ?_⟩) (by assumption) ?_
  rotate_left
  · (intro w_ hS_; (try dsimp only at hS_); go_simp; try with_reducible rfl)
  try simp only [Act.put, List.setIfInBounds_toArray, List.set_cons_zero, List.set_cons_succ]
  refine wpAnyH_take (i := 3) (oi := ⟨some 40, .load 75 (.tmp 39), 75, "ref.go:50", #[⟨2, .data⟩], none⟩) (v := ?_) rfl (by kernel_rfl) (by kernel_rfl) (by kernel_rfl) (fun _ _ _ h => h) (Or.inl ⟨by rfl, ?_⟩) (by assumption) ?_
  rotate_left
  · (intro w_ hS_; (try dsimp only at hS_); go_simp; try with_reducible rfl)
  try simp only [Act.put, List.setIfInBounds_toArray, List.set_cons_zero, List.set_cons_succ]
  refine wpAnyH_take (i := 4) (oi := ⟨some 41, .move (.tmp 9), 3, "ref.go:50", #[], none⟩) (v := ?_) rfl (by kernel_rfl) (by kernel_rfl) (by kernel_rfl) (fun _ _ _ h => h) (Or.inl ⟨by rfl, ?_⟩) (by assumption) ?_
  rotate_left
  · (intro w_ hS_; (try dsimp only at hS_); go_simp; try with_reducible rfl)
  try simp only [Act.put, List.setIfInBounds_toArray, List.set_cons_zero, List.set_cons_succ]
  refine wpAnyH_take (i := 5) (oi := ⟨some 42, .load 33 (.tmp 6), 33, "ref.go:50", #[], none⟩) (v := ?_) rfl (by kernel_rfl) (by kernel_rfl) (by kernel_rfl) (fun _ _ _ h => h) (Or.inl ⟨by rfl, ?_⟩) (by assumption) ?_
  rotate_left
  · (intro w_ hS_; (try dsimp only at hS_); go_simp; try with_reducible rfl)
  try simp only [Act.put, List.setIfInBounds_toArray, List.set_cons_zero, List.set_cons_succ]
  refine wpAnyH_take (i := 6) (oi := ⟨some 43, .indexAddr 75 (.tmp 40) (.tmp 41), 0, "ref.go:50", #[⟨3, .data⟩, ⟨4, .data⟩, ⟨0, .phase⟩, ⟨1, .phase⟩, ⟨2, .phase⟩, ⟨3, .phase⟩, ⟨4, .phase⟩, ⟨5, .phase⟩], none⟩) (v := ?_) rfl (by kernel_rfl) (by kernel_rfl) (by kernel_rfl) (fun _ _ _ h => h) (Or.inl ⟨by rfl, ?_⟩) (by assumption) ?_
  rotate_left
  · (intro w_ hS_; (try dsimp only at hS_); go_simp; try with_reducible rfl)
  try simp only [Act.put, List.setIfInBounds_toArray, List.set_cons_zero, List.set_cons_succ]
  refine wpAnyH_ready (rs := [7]) (by kernel_rfl) (by simp) ?_
  refine AllReadyH.cons (o := ⟨none, .store 33 (.tmp 43) (.tmp 42), 0, "ref.go:50", #[⟨6, .data⟩, ⟨5, .data⟩, ⟨0, .phase⟩, ⟨1, .phase⟩, ⟨2, .phase⟩, ⟨3, .phase⟩, ⟨4, .phase⟩, ⟨5, .phase⟩], none⟩) rfl (fun K hK => ?_) AllReadyH.nil
  (have hq_ := hHeld; (try dsimp only at hq_))
  obtain ⟨⟨PG_3_1, PG_3_1'⟩, ⟨PL_3_1, PL_3_1'⟩, ⟨PY_3_1, PY_3_1'⟩, ⟨PX_3_1, PX_3_1'⟩, al0_3_1, al1_3_1, hF_3_1⟩ := hq_
  go_simp
  refine hK.out _ _ ?_ (fun hHeld => ?_)
  · (refine ⟨⟨by go_simp, by go_simp⟩, ⟨by go_simp, by go_simp⟩, ⟨by go_simp, by go_simp⟩, ⟨by go_simp, by go_simp⟩, by first | assumption | (go_simp; done), by first | assumption | (go_simp; done), by go_simp⟩)
  clear hK K
  try simp only [Act.put, List.setIfInBounds_toArray, List.set_cons_zero, List.set_cons_succ]
  refine wpAnyH_done (by kernel_rfl) ?_ _
  (try dsimp only at hHeld)
  go_split_ands
  go_wp2
  go_ret
  exact ⟨rfl, ⟨by go_simp, by go_simp⟩, ⟨by go_simp, by go_simp⟩, by go_simp⟩
set_option maxHeartbeats 2000000 in
theorem rPut_hit1 (gr c c' n ll xl : Nat) (first : Int) (d : List E) (T T' : List Value) (k : Nat) (x : E) (w : World) (hn : d.length = n) (hr : Row w gr #[.int .i64 first, .slice (some ⟨ll, 0, none⟩) n c, .slice (some ⟨xl, 0, none⟩) n c']) (hl : Row w ll (FT eEL d T)) (hxl : Row w xl (FT eEX d T'))
    (m1 : ¬ gr = ll) (m2 : ¬ gr = xl) (m3 : ¬ ll = xl) (hk : k < n) (h0 : 0 ≤ first) (h1 : first + n ≤ 16384) (hx : x.f5 = 1 ∧ 0 ≤ x.f6 ∧ x.f6 ≤ 255) :
    Calls Try.prog 46 #[.pointer (some ⟨gr, 0, none⟩), .int .i64 (first + k), .agg (vL x.l), .string x.f7] w fun e w' => e = .returned (.int .i64 0) ∧ Row w' ll (FT eEL (d.set k (setE x)) T) ∧ Row w' xl (FT eEX (d.set k (setE x)) T') ∧ AsideP (fun j => j = ll ∨ j = xl) w w' := by
  have HH := Lib.hid (fun (W : World) (h : Row W gr #[.int .i64 first, .slice (some ⟨ll, 0, none⟩) n c, .slice (some ⟨xl, 0, none⟩) n c']) => at_c gr c c' n _ _ first (first + k) W h h0 h1)
  rw [hasB_at hk, if_pos rfl, show first + (k : Int) - first = k by omega] at HH
  have hget : d[k]? = some d[k] := List.getElem?_eq_getElem (by omega)
  have hget2 : (d.set k (setE x))[k]? = some (setE x) := by rw [List.getElem?_set_self (by omega)]
  obtain ⟨N, hN⟩ : ∃ N, (FT eEL d T).size = N := ⟨_, rfl⟩
  have hs : k * 7 + 7 ≤ N := by rw [← hN, FT_size eEL_len]; omega
  have hspl : spl (FT eEL d T) (k * 7) (vL (setE x).l) = FT eEL (d.set k (setE x)) T := FT_spl eEL_len hget (Nat.le_refl _) rfl
  have hspl2 : spl (FT eEL (d.set k (setE x)) T) (k * 7) (vL (setE x).l) = FT eEL (d.set k (setE x)) T := (FT_spl eEL_len hget2 (Nat.le_refl _) rfl).trans (by rw [List.set_set])
  have hN2 : (FT eEL (d.set k (setE x)) T).size = N := by rw [← hN, FT_size eEL_len, FT_size eEL_len, List.length_set]
  have hsx : k < (FT eEX d T').size := by rw [FT_size eEX_len]; omega
  have hset : (FT eEX d T').setIfInBounds k (.string x.f7) = FT eEX (d.set k (setE x)) T' := by
    have := FT_set (T := T') (y := setE x) (v := .string x.f7) eEX_len hget (show 0 < 1 by decide) rfl
    rwa [show k * 1 + 0 = k by omega] at this
  have hcell : (FT eEX d T')[k]? = some (.string d[k].f7) := by
    have := FT_at (T := T') eEX_len hget (show 0 < 1 by decide)
    rwa [show k * 1 + 0 = k by omega] at this
  have k0 : (0 : Int) ≤ k := by omega
  have k1 : (k : Int) < n := by omega
  have k2 : decide ((k : Int) < 0) = false := decide_eq_false (by omega)
  generalize d[k] = y at *
  clear hget hget2 h0 hk
  have lg := hr.lt
  have la := hl.lt
  have lx := hxl.lt
  obtain ⟨hg, hg'⟩ := hr
  obtain ⟨hl, hl'⟩ := hl
  obtain ⟨hxl, hxl'⟩ := hxl
  have m1' : ¬ ll = gr := fun e => m1 e.symm
  have m2' : ¬ xl = gr := fun e => m2 e.symm
  have m3' : ¬ xl = ll := fun e => m3 e.symm
  have a5 : (vL x.l)[5]? = some (.int .i64 x.f5) := rfl
  have a6 : (vL x.l)[6]? = some (.int .i64 x.f6) := rfl
  obtain ⟨g5, g6, g7⟩ := hx
  have HR := Lib.hid (fun (W : World) => rreal_c g6 g7 W)
  have u3 : decide (x.f6 < 0) = false := decide_eq_false (by omega)
  have u4 : decide (255 < x.f6) = false := decide_eq_false (by omega)
  clear g6 g7
  have hfold : (vL x.l).setIfInBounds 6 (.int .i64 (realP x.f6)) = vL (setE x).l := rfl
  have hX : AsideP (fun j => j = ll ∨ j = xl) w w := .of_below (Below.refl _ _)
  go_enter Try.func46, Try.ntmps46
  have hB_0 : Below w.heap.size w w := Below.refl _ _
  have ne_G_X : ¬ gr = w.heap.size := by omega
  have en_G_X : ¬ w.heap.size = gr := by omega
  have ne_L_X : ¬ ll = w.heap.size := by omega
  have en_L_X : ¬ w.heap.size = ll := by omega
  have ne_Y_X : ¬ xl = w.heap.size := by omega
  have en_Y_X : ¬ w.heap.size = xl := by omega
  go_wp2_with fail
  refine (HH.out _ ⟨by go_simp, by go_simp⟩).mono ?_
  rintro e v1 ⟨rfl, hb1⟩
  obtain ⟨G_1, G_1'⟩ : Row v1 gr #[.int .i64 first, .slice (some ⟨ll, 0, none⟩) n c, .slice (some ⟨xl, 0, none⟩) n c'] := Row.step (by go_simp) (by go_simp) hb1
  obtain ⟨L_1, L_1'⟩ : Row v1 ll (FT eEL d T) := Row.step (by go_simp) (by go_simp) hb1
  obtain ⟨Y_1, Y_1'⟩ : Row v1 xl (FT eEX d T') := Row.step (by go_simp) (by go_simp) hb1
  obtain ⟨X_1, X_1'⟩ : Row v1 w.heap.size (vL x.l) := Row.step (by go_simp) (by go_simp) hb1
  have hB_1 : AsideP (fun j => j = ll ∨ j = xl) w v1 := AsideP.low (by go_simp) hb1
  clear hg hg' hl hl' hxl hxl' hX hb1
  have hz_1 : w.heap.size ≤ v1.heap.size := hB_1.size
  have hl_G_1 := isRow.lt G_1
  have ne_G_1_0 : ¬ gr = v1.heap.size := by omega
  have en_G_1_0 : ¬ v1.heap.size = gr := by omega
  have hl_L_1 := isRow.lt L_1
  have ne_L_1_0 : ¬ ll = v1.heap.size := by omega
  have en_L_1_0 : ¬ v1.heap.size = ll := by omega
  have hl_Y_1 := isRow.lt Y_1
  have ne_Y_1_0 : ¬ xl = v1.heap.size := by omega
  have en_Y_1_0 : ¬ v1.heap.size = xl := by omega
  have hl_X_1 := isRow.lt X_1
  have ne_X_1_0 : ¬ w.heap.size = v1.heap.size := by omega
  have en_X_1_0 : ¬ v1.heap.size = w.heap.size := by omega
  have u0 : (x.f5 != 0) = true := by simp [g5]
  have u1 : (x.f5 != 1) = false := by simp [g5]
  go_wp2_with fail
  refine (HR.out _).mono ?_
  rintro e v2 ⟨rfl, hb2⟩
  obtain ⟨G_2, G_2'⟩ : Row v2 gr #[.int .i64 first, .slice (some ⟨ll, 0, none⟩) n c, .slice (some ⟨xl, 0, none⟩) n c'] := Row.step (by go_simp) (by go_simp) hb2
  obtain ⟨L_2, L_2'⟩ : Row v2 ll (FT eEL d T) := Row.step (by go_simp) (by go_simp) hb2
  obtain ⟨Y_2, Y_2'⟩ : Row v2 xl (FT eEX d T') := Row.step (by go_simp) (by go_simp) hb2
  obtain ⟨X_2, X_2'⟩ : Row v2 w.heap.size (vL x.l) := Row.step (by go_simp) (by go_simp) hb2
  have hB_2 : AsideP (fun j => j = ll ∨ j = xl) w v2 := AsideP.low (by go_simp) hb2
  clear G_1 G_1' L_1 L_1' Y_1 Y_1' X_1 X_1' hB_1 hb2
  have hz_2 : w.heap.size ≤ v2.heap.size := hB_2.size
  have hl_G_2 := isRow.lt G_2
  have ne_G_2_0 : ¬ gr = v2.heap.size := by omega
  have en_G_2_0 : ¬ v2.heap.size = gr := by omega
  have hl_L_2 := isRow.lt L_2
  have ne_L_2_0 : ¬ ll = v2.heap.size := by omega
  have en_L_2_0 : ¬ v2.heap.size = ll := by omega
  have hl_Y_2 := isRow.lt Y_2
  have ne_Y_2_0 : ¬ xl = v2.heap.size := by omega
  have en_Y_2_0 : ¬ v2.heap.size = xl := by omega
  have hl_X_2 := isRow.lt X_2
  have ne_X_2_0 : ¬ w.heap.size = v2.heap.size := by omega
  have en_X_2_0 : ¬ v2.heap.size = w.heap.size := by omega
  have hm : Mid (rowAt v2 ll) := trivial
  have hz : (rowAt v2 ll).size = N := by rw [L_2', hN]
  have hq : spl (rowAt v2 ll) (k * 7) (vL (setE x).l) = FT eEL (d.set k (setE x)) T := by rw [L_2']; exact hspl
  go_wp2
  refine wp_region_held_drew (S := fun w' => (isRow w' gr ∧ rowAt w' gr = #[.int .i64 first, .slice (some ⟨ll, 0, none⟩) n c, .slice (some ⟨xl, 0, none⟩) n c']) ∧ (isRow w' ll ∧ (rowAt w' ll).size = N) ∧ (isRow w' xl ∧ rowAt w' xl = FT eEX d T') ∧ (isRow w' w.heap.size ∧ rowAt w' w.heap.size = vL (setE x).l) ∧ Mid (rowAt w' ll) ∧ spl (rowAt w' ll) (k * 7) (vL (setE x).l) = FT eEL (d.set k (setE x)) T ∧ AsideP (fun j => j = ll ∨ j = xl) w w') (by kernel_rfl) ⟨⟨by go_simp, by go_simp⟩, ⟨by go_simp, by go_simp⟩, ⟨by go_simp, by go_simp⟩, ⟨by go_simp, by go_simp⟩, by first | exact hm | (go_simp; done), by first | exact hq | (go_simp; done), by go_simp⟩ (fun hHeld => ?_)
  refine wpAnyH_take (i := 0) (oi := ⟨some 37, .move (.tmp 0), 27, "ref.go:50", #[], none⟩) (v := ?_) rfl (by kernel_rfl) (by kernel_rfl) (by kernel_rfl) (fun _ _ _ h => h) (Or.inl ⟨by rfl, ?_⟩) (by assumption) ?_
  rotate_left
  · (intro w_ hS_; (try dsimp only at hS_); go_simp; try with_reducible rfl)
  try simp only [Act.put, List.setIfInBounds_toArray, List.set_cons_zero, List.set_cons_succ]
  refine wpAnyH_take (i := 1) (oi := ⟨some 38, .nilCheck (.tmp 37), 0, "ref.go:50", #[⟨0, .data⟩], none⟩) (v := ?_) rfl (by kernel_rfl) (by kernel_rfl) (by kernel_rfl) (fun _ _ _ h => h) (Or.inl ⟨by rfl, ?_⟩) (by assumption) ?_
  rotate_left
  · (intro w_ hS_; (try dsimp only at hS_); go_simp; try with_reducible rfl)
  try simp only [Act.put, List.setIfInBounds_toArray, List.set_cons_zero, List.set_cons_succ]
  refine wpAnyH_take (i := 2) (oi := ⟨some 39, .fieldAddr 78 (.tmp 38) 1, 0, "ref.go:50", #[⟨1, .data⟩], none⟩) (v := ?_) rfl (by kernel_rfl) (by kernel_rfl) (by kernel_rfl) (fun _ _ _ h => h) (Or.inl ⟨by rfl, ?_⟩) (by assumption) ?_
  rotate_left
  · (intro w_ hS_; (try dsimp only at hS_); go_simp; try with_reducible rfl)
  try simp only [Act.put, List.setIfInBounds_toArray, List.set_cons_zero, List.set_cons_succ]
  refine wpAnyH_take (i := 3) (oi := ⟨some 40, .load 75 (.tmp 39), 75, "ref.go:50", #[⟨2, .data⟩], none⟩) (v := ?_) rfl (by kernel_rfl) (by kernel_rfl) (by kernel_rfl) (fun _ _ _ h => h) (Or.inl ⟨by rfl, ?_⟩) (by assumption) ?_
  rotate_left
  · (intro w_ hS_; (try dsimp only at hS_); go_simp; try with_reducible rfl)
  try simp only [Act.put, List.setIfInBounds_toArray, List.set_cons_zero, List.set_cons_succ]
  refine wpAnyH_take (i := 4) (oi := ⟨some 41, .move (.tmp 9), 3, "ref.go:50", #[], none⟩) (v := ?_) rfl (by kernel_rfl) (by kernel_rfl) (by kernel_rfl) (fun _ _ _ h => h) (Or.inl ⟨by rfl, ?_⟩) (by assumption) ?_
  rotate_left
  · (intro w_ hS_; (try dsimp only at hS_); go_simp; try with_reducible rfl)
  try simp only [Act.put, List.setIfInBounds_toArray, List.set_cons_zero, List.set_cons_succ]
  refine wpAnyH_take (i := 5) (oi := ⟨some 42, .load 33 (.tmp 6), 33, "ref.go:50", #[], none⟩) (v := ?_) rfl (by kernel_rfl) (by kernel_rfl) (by kernel_rfl) (fun _ _ _ h => h) (Or.inl ⟨by rfl, ?_⟩) (by assumption) ?_
  rotate_left
  · (intro w_ hS_; (try dsimp only at hS_); go_simp; try with_reducible rfl)
  try simp only [Act.put, List.setIfInBounds_toArray, List.set_cons_zero, List.set_cons_succ]
  refine wpAnyH_take (i := 6) (oi := ⟨some 43, .indexAddr 75 (.tmp 40) (.tmp 41), 0, "ref.go:50", #[⟨3, .data⟩, ⟨4, .data⟩, ⟨0, .phase⟩, ⟨1, .phase⟩, ⟨2, .phase⟩, ⟨3, .phase⟩, ⟨4, .phase⟩, ⟨5, .phase⟩], none⟩) (v := ?_) rfl (by kernel_rfl) (by kernel_rfl) (by kernel_rfl) (fun _ _ _ h => h) (Or.inl ⟨by rfl, ?_⟩) (by assumption) ?_
  rotate_left
  · (intro w_ hS_; (try dsimp only at hS_); go_simp; try with_reducible rfl)
  try simp only [Act.put, List.setIfInBounds_toArray, List.set_cons_zero, List.set_cons_succ]
  refine wpAnyH_ready (rs := [7]) (by kernel_rfl) (by simp) ?_
  refine AllReadyH.cons (o := ⟨none, .store 33 (.tmp 43) (.tmp 42), 0, "ref.go:50", #[⟨6, .data⟩, ⟨5, .data⟩, ⟨0, .phase⟩, ⟨1, .phase⟩, ⟨2, .phase⟩, ⟨3, .phase⟩, ⟨4, .phase⟩, ⟨5, .phase⟩], none⟩) rfl (fun K hK => ?_) AllReadyH.nil
  (have hq_ := hHeld; (try dsimp only at hq_))
  obtain ⟨⟨PG_3_1, PG_3_1'⟩, ⟨PL_3_1, PL_3_1'⟩, ⟨PY_3_1, PY_3_1'⟩, ⟨PX_3_1, PX_3_1'⟩, al0_3_1, al1_3_1, hF_3_1⟩ := hq_
  go_simp
  refine hK.out _ _ ?_ (fun hHeld => ?_)
  · (refine ⟨⟨by go_simp, by go_simp⟩, ⟨by go_simp, by go_simp⟩, ⟨by go_simp, by go_simp⟩, ⟨by go_simp, by go_simp⟩, by first | assumption | (go_simp; done), by first | assumption | (go_simp; done), by go_simp⟩)
  clear hK K
  try simp only [Act.put, List.setIfInBounds_toArray, List.set_cons_zero, List.set_cons_succ]
  refine wpAnyH_done (by kernel_rfl) ?_ _
  (try dsimp only at hHeld)
  go_split_ands
  go_wp2
  go_ret
  exact ⟨rfl, ⟨by go_simp, by go_simp⟩, ⟨by go_simp, by go_simp⟩, by go_simp⟩
theorem rPut_hit (gr c c' n ll xl : Nat) (first : Int) (d : List E) (T T' : List Value) (k : Nat) (x : E) (w : World) (hn : d.length = n) (hr : Row w gr #[.int .i64 first, .slice (some ⟨ll, 0, none⟩) n c, .slice (some ⟨xl, 0, none⟩) n c']) (hl : Row w ll (FT eEL d T)) (hxl : Row w xl (FT eEX d T'))
    (m1 : ¬ gr = ll) (m2 : ¬ gr = xl) (m3 : ¬ ll = xl) (hk : k < n) (h0 : 0 ≤ first) (h1 : first + n ≤ 16384) (hx : goodE x) :
    Calls Try.prog 46 #[.pointer (some ⟨gr, 0, none⟩), .int .i64 (first + k), .agg (vL x.l), .string x.f7] w fun e w' => e = .returned (.int .i64 0) ∧ Row w' ll (FT eEL (d.set k (setE x)) T) ∧ Row w' xl (FT eEX (d.set k (setE x)) T') ∧ AsideP (fun j => j = ll ∨ j = xl) w w' := by
  rcases hx.1 with h | h
  · exact rPut_hit0 gr c c' n ll xl first d T T' k x w hn hr hl hxl m1 m2 m3 hk h0 h1 ⟨h, hx.2⟩
  · exact rPut_hit1 gr c c' n ll xl first d T T' k x w hn hr hl hxl m1 m2 m3 hk h0 h1 ⟨h, hx.2⟩
end Go.Proofs.Ytbglgblngfbhbaa.Bk

namespace Go.Proofs.Ytbglgblngfbhbaa.Bk
open Go.RowKit Go.Shelf Go.Proofs.Ytbglgblngfbhbaa.IAll Go.Proofs.YtbglgblngfbhbaaW.PrintWords Go.Proofs.YtbglgblngfbhbaaW.PrintLast Go.Proofs.YtbglgblngfbhbaaW.PrintMore
set_option linter.unusedVariables false
set_option linter.unusedSectionVars false
set_option linter.unusedSimpArgs false
attribute [local go_sem] Oper.semAt_some cell_row frozen_row isRow_setCell_eq rowAt_setCell_same rowAt_setCell_other isRow_alloc_eq rowAt_alloc rowAt_new rowAt_new' isRow_setRow_eq rowAt_setRow_same rowAt_setRow_other isRow_drew rowAt_drew size_setRow_ size_drew_ blk_ptr aggOf_agg offv_ptr below_alloc_e below_setCell_e below_setRow_e below_refl_e below_drew_r isRow_drewN rowAt_drewN below_drewN_e le_add_r asideP_alloc_e asideP_setCell_e asideP_setRow_e asideP_drew_e asideP_drewN_e asideP_refl_e allOne_nil allOne_cons Value.oneCell' addr_at mid_FT vE_size vL_size vQ_size vC_size vS_size vP_size vE_one vL_one vQ_one vC_one vS_one vP_one mid_spl spl_size spl_spl mid_vE vE_ext4 vE_ext7 vE_ext8 vE_0 vE_1 vE_2 vE_3 vE_4 vE_5 vE_6 vE_7 vL_0 vL_1 vL_2 vL_3 vL_4 vL_5 vL_6
attribute [local go_sem ↓] loadE storeE loadEm storeEm loadEg storeEg loadEmg storeEmg loadL storeL loadLm storeLm loadQ storeQ loadQm storeQm loadC storeC loadCg storeCg loadS storeS loadSm loadP storeP loadPm loadPg storePg 
set_option maxRecDepth 100000

theorem st_spl {w w' : World} {g o : Nat} {cs R : Array Value} (h : isRow w g ∧ spl (rowAt w g) o cs = R) (hb : Below w.heap.size w w') : isRow w' g ∧ spl (rowAt w' g) o cs = R := ⟨rk1 h.1 hb, by rw [rk3 h.1 hb]; exact h.2⟩
theorem rDo_miss (gr c c' n : Nat) (A A' : Option Addr) (first id a : Int) (w : World) (hr : Row w gr #[.int .i64 first, .slice A n c, .slice A' n c']) (h0 : 0 ≤ first) (h1 : first + n ≤ 16384) (hh : hasB first n id = false) :
    Calls Try.prog 47 #[.pointer (some ⟨gr, 0, none⟩), .int .i64 id, .int .i64 a] w fun e w' => e = .returned (.int .i64 90) ∧ Below w.heap.size w w' := by
  have HH := Lib.hid (fun (W : World) (h : Row W gr #[.int .i64 first, .slice A n c, .slice A' n c']) => at_c gr c c' n A A' first id W h h0 h1)
  rw [hh] at HH
  have lg := hr.lt
  obtain ⟨hg, hg'⟩ := hr
  go_enter Try.func47, Try.ntmps47
  have hB_0 : Below w.heap.size w w := Below.refl _ _
  go_wp2_with fail
  refine (HH.out _ ⟨by go_simp, by go_simp⟩).mono ?_
  rintro e v1 ⟨rfl, hb1⟩
  obtain ⟨G_1, G_1'⟩ : Row v1 gr #[.int .i64 first, .slice A n c, .slice A' n c'] := Row.step (by go_simp) (by go_simp) hb1
  have hB_1 : Below w.heap.size w v1 := bk (by go_simp) (by first | (go_simp; done) | (go_simp; omega) | exact Below.size (by assumption)) hb1
  clear hg hg' hB_0 hb1
  have hz_1 : w.heap.size ≤ v1.heap.size := hB_1.size
  have hl_G_1 := isRow.lt G_1
  have ne_G_1_0 : ¬ gr = v1.heap.size := by omega
  have en_G_1_0 : ¬ v1.heap.size = gr := by omega
  go_wp2
  go_ret
  exact ⟨rfl, by go_simp⟩
set_option maxHeartbeats 2000000 in
theorem rDo_hit (gr c c' n ll xl : Nat) (first a : Int) (d : List E) (T : List Value) (k : Nat) (x : E) (w : World) (hn : d.length = n) (hr : Row w gr #[.int .i64 first, .slice (some ⟨ll, 0, none⟩) n c, .slice (some ⟨xl, 0, none⟩) n c']) (hl : Row w ll (FT eEL d T))
    (m1 : ¬ gr = ll) (hk : d[k]? = some x) (h0 : 0 ≤ first) (h1 : first + n ≤ 16384) :
    Calls Try.prog 47 #[.pointer (some ⟨gr, 0, none⟩), .int .i64 (first + k), .int .i64 a] w fun e w' => e = .returned (.int .i64 0) ∧ Row w' ll (FT eEL (d.set k (doE x a)) T) ∧ AsideP (fun j => j = ll) w w' := by
  have hlt : k < n := by rw [← hn]; exact (List.getElem?_eq_some_iff.1 hk).1
  have HH := Lib.hid (fun (W : World) (h : Row W gr #[.int .i64 first, .slice (some ⟨ll, 0, none⟩) n c, .slice (some ⟨xl, 0, none⟩) n c']) => at_c gr c c' n _ _ first (first + k) W h h0 h1)
  rw [hasB_at hlt, if_pos rfl, show first + (k : Int) - first = k by omega] at HH
  have hget2 : (d.set k (doE x a))[k]? = some (doE x a) := by rw [List.getElem?_set_self (by omega)]
  obtain ⟨N, hN⟩ : ∃ N, (FT eEL d T).size = N := ⟨_, rfl⟩
  have hs : k * 7 + 4 ≤ N := by rw [← hN, FT_size eEL_len]; omega
  have hx : (FT eEL d T).extract (k * 7) (k * 7 + 4) = vQ x.q := FT_ext eEL_len hk (by decide)
  have hspl : spl (FT eEL d T) (k * 7) (vQ (stp x.q a)) = FT eEL (d.set k (doE x a)) T := FT_spl eEL_len hk (show (4 : Nat) ≤ 7 by decide) rfl
  have hspl2 : spl (FT eEL (d.set k (doE x a)) T) (k * 7) (vQ (stp x.q a)) = FT eEL (d.set k (doE x a)) T := (FT_spl (y := doE x a) (cs := vQ (stp x.q a)) eEL_len hget2 (show (4 : Nat) ≤ 7 by decide) rfl).trans (by rw [List.set_set])
  have hN2 : (FT eEL (d.set k (doE x a)) T).size = N := by rw [← hN, FT_size eEL_len, FT_size eEL_len, List.length_set]
  have k0 : (0 : Int) ≤ k := by omega
  have k1 : (k : Int) < n := by omega
  have k2 : decide ((k : Int) < 0) = false := decide_eq_false (by omega)
  clear hget2 h0 hk hlt
  have lg := hr.lt
  have la := hl.lt
  obtain ⟨hg, hg'⟩ := hr
  obtain ⟨hl, hl'⟩ := hl
  have m1' : ¬ ll = gr := fun e => m1 e.symm
  have HR := Lib.hid (fun (W : World) => rstep_c x.q a W)
  have hX : AsideP (fun j => j = ll) w w := .of_below (Below.refl _ _)
  go_enter Try.func47, Try.ntmps47
  have hB_0 : Below w.heap.size w w := Below.refl _ _
  go_wp2_with fail
  refine (HH.out _ ⟨by go_simp, by go_simp⟩).mono ?_
  rintro e v1 ⟨rfl, hb1⟩
  obtain ⟨G_1, G_1'⟩ : Row v1 gr #[.int .i64 first, .slice (some ⟨ll, 0, none⟩) n c, .slice (some ⟨xl, 0, none⟩) n c'] := Row.step (by go_simp) (by go_simp) hb1
  obtain ⟨L_1, L_1'⟩ : Row v1 ll (FT eEL d T) := Row.step (by go_simp) (by go_simp) hb1
  have hB_1 : AsideP (fun j => j = ll) w v1 := AsideP.low (by go_simp) hb1
  clear hg hg' hl hl' hX hb1
  have hz_1 : w.heap.size ≤ v1.heap.size := hB_1.size
  have hl_G_1 := isRow.lt G_1
  have ne_G_1_0 : ¬ gr = v1.heap.size := by omega
  have en_G_1_0 : ¬ v1.heap.size = gr := by omega
  have hl_L_1 := isRow.lt L_1
  have ne_L_1_0 : ¬ ll = v1.heap.size := by omega
  have en_L_1_0 : ¬ v1.heap.size = ll := by omega
  have hm : Mid (rowAt v1 ll) := trivial
  have hz : (rowAt v1 ll).size = N := by rw [L_1', hN]
  have hq : isRow v1 ll ∧ spl (rowAt v1 ll) (k * 7) (vQ (stp x.q a)) = FT eEL (d.set k (doE x a)) T := ⟨L_1, by rw [L_1']; exact hspl⟩
  go_wp2_with fail
  refine wp_region_held_drew (S := fun w' => (isRow w' gr ∧ rowAt w' gr = #[.int .i64 first, .slice (some ⟨ll, 0, none⟩) n c, .slice (some ⟨xl, 0, none⟩) n c']) ∧ (isRow w' ll ∧ (rowAt w' ll).size = N) ∧ Mid (rowAt w' ll) ∧ (isRow w' ll ∧ spl (rowAt w' ll) (k * 7) (vQ (stp x.q a)) = FT eEL (d.set k (doE x a)) T) ∧ AsideP (fun j => j = ll) w w') (by kernel_rfl) ⟨⟨by go_simp, by go_simp⟩, ⟨by go_simp, by go_simp⟩, by first | exact hm | (go_simp; done), by first | exact hq | (go_simp; done), by go_simp⟩ (fun hHeld => ?_)
  refine wpAnyH_take (i := 0) (oi := ⟨some 13, .move (.tmp 0), 27, "ref.go:61", #[], none⟩) (v := ?_) rfl (by kernel_rfl) (by kernel_rfl) (by kernel_rfl) (fun _ _ _ h => h) (Or.inl ⟨by rfl, ?_⟩) (by assumption) ?_
  rotate_left
  · (intro w_ hS_; (try dsimp only at hS_); go_simp; try with_reducible rfl)
  try simp only [Act.put, List.setIfInBounds_toArray, List.set_cons_zero, List.set_cons_succ]
  refine wpAnyH_take (i := 1) (oi := ⟨some 14, .nilCheck (.tmp 13), 0, "ref.go:61", #[⟨0, .data⟩], none⟩) (v := ?_) rfl (by kernel_rfl) (by kernel_rfl) (by kernel_rfl) (fun _ _ _ h => h) (Or.inl ⟨by rfl, ?_⟩) (by assumption) ?_
  rotate_left
  · (intro w_ hS_; (try dsimp only at hS_); go_simp; try with_reducible rfl)
  try simp only [Act.put, List.setIfInBounds_toArray, List.set_cons_zero, List.set_cons_succ]
  refine wpAnyH_take (i := 2) (oi := ⟨some 15, .fieldAddr 78 (.tmp 14) 1, 0, "ref.go:61", #[⟨1, .data⟩], none⟩) (v := ?_) rfl (by kernel_rfl) (by kernel_rfl) (by kernel_rfl) (fun _ _ _ h => h) (Or.inl ⟨by rfl, ?_⟩) (by assumption) ?_
  rotate_left
  · (intro w_ hS_; (try dsimp only at hS_); go_simp; try with_reducible rfl)
  try simp only [Act.put, List.setIfInBounds_toArray, List.set_cons_zero, List.set_cons_succ]
  refine wpAnyH_take (i := 3) (oi := ⟨some 16, .load 75 (.tmp 15), 75, "ref.go:61", #[⟨2, .data⟩], none⟩) (v := ?_) rfl (by kernel_rfl) (by kernel_rfl) (by kernel_rfl) (fun _ _ _ h => h) (Or.inl ⟨by rfl, ?_⟩) (by assumption) ?_
  rotate_left
  · (intro w_ hS_; (try dsimp only at hS_); go_simp; try with_reducible rfl)
  try simp only [Act.put, List.setIfInBounds_toArray, List.set_cons_zero, List.set_cons_succ]
  refine wpAnyH_take (i := 4) (oi := ⟨some 17, .move (.tmp 7), 3, "ref.go:61", #[], none⟩) (v := ?_) rfl (by kernel_rfl) (by kernel_rfl) (by kernel_rfl) (fun _ _ _ h => h) (Or.inl ⟨by rfl, ?_⟩) (by assumption) ?_
  rotate_left
  · (intro w_ hS_; (try dsimp only at hS_); go_simp; try with_reducible rfl)
  try simp only [Act.put, List.setIfInBounds_toArray, List.set_cons_zero, List.set_cons_succ]
  refine wpAnyH_take (i := 5) (oi := ⟨some 18, .move (.tmp 0), 27, "ref.go:61", #[], none⟩) (v := ?_) rfl (by kernel_rfl) (by kernel_rfl) (by kernel_rfl) (fun _ _ _ h => h) (Or.inl ⟨by rfl, ?_⟩) (by assumption) ?_
  rotate_left
  · (intro w_ hS_; (try dsimp only at hS_); go_simp; try with_reducible rfl)
  try simp only [Act.put, List.setIfInBounds_toArray, List.set_cons_zero, List.set_cons_succ]
  refine wpAnyH_take (i := 6) (oi := ⟨some 19, .nilCheck (.tmp 18), 0, "ref.go:61", #[⟨5, .data⟩], none⟩) (v := ?_) rfl (by kernel_rfl) (by kernel_rfl) (by kernel_rfl) (fun _ _ _ h => h) (Or.inl ⟨by rfl, ?_⟩) (by assumption) ?_
  rotate_left
  · (intro w_ hS_; (try dsimp only at hS_); go_simp; try with_reducible rfl)
  try simp only [Act.put, List.setIfInBounds_toArray, List.set_cons_zero, List.set_cons_succ]
  refine wpAnyH_take (i := 7) (oi := ⟨some 20, .fieldAddr 78 (.tmp 19) 1, 0, "ref.go:61", #[⟨6, .data⟩], none⟩) (v := ?_) rfl (by kernel_rfl) (by kernel_rfl) (by kernel_rfl) (fun _ _ _ h => h) (Or.inl ⟨by rfl, ?_⟩) (by assumption) ?_
  rotate_left
  · (intro w_ hS_; (try dsimp only at hS_); go_simp; try with_reducible rfl)
  try simp only [Act.put, List.setIfInBounds_toArray, List.set_cons_zero, List.set_cons_succ]
  refine wpAnyH_take (i := 8) (oi := ⟨some 21, .load 75 (.tmp 20), 75, "ref.go:61", #[⟨7, .data⟩], none⟩) (v := ?_) rfl (by kernel_rfl) (by kernel_rfl) (by kernel_rfl) (fun _ _ _ h => h) (Or.inl ⟨by rfl, ?_⟩) (by assumption) ?_
  rotate_left
  · (intro w_ hS_; (try dsimp only at hS_); go_simp; try with_reducible rfl)
  try simp only [Act.put, List.setIfInBounds_toArray, List.set_cons_zero, List.set_cons_succ]
  refine wpAnyH_take (i := 9) (oi := ⟨some 22, .move (.tmp 7), 3, "ref.go:61", #[], none⟩) (v := ?_) rfl (by kernel_rfl) (by kernel_rfl) (by kernel_rfl) (fun _ _ _ h => h) (Or.inl ⟨by rfl, ?_⟩) (by assumption) ?_
  rotate_left
  · (intro w_ hS_; (try dsimp only at hS_); go_simp; try with_reducible rfl)
  try simp only [Act.put, List.setIfInBounds_toArray, List.set_cons_zero, List.set_cons_succ]
  refine wpAnyH_take (i := 10) (oi := ⟨some 23, .indexAddr 75 (.tmp 21) (.tmp 22), 0, "ref.go:61", #[⟨8, .data⟩, ⟨9, .data⟩], none⟩) (v := ?_) rfl (by kernel_rfl) (by kernel_rfl) (by kernel_rfl) (fun _ _ _ h => h) (Or.inl ⟨by rfl, ?_⟩) (by assumption) ?_
  rotate_left
  · (intro w_ hS_; (try dsimp only at hS_); go_simp; try with_reducible rfl)
  try simp only [Act.put, List.setIfInBounds_toArray, List.set_cons_zero, List.set_cons_succ]
  refine wpAnyH_take (i := 11) (oi := ⟨some 24, .fieldAddr 33 (.tmp 23) 0, 0, "ref.go:61", #[⟨10, .data⟩], none⟩) (v := ?_) rfl (by kernel_rfl) (by kernel_rfl) (by kernel_rfl) (fun _ _ _ h => h) (Or.inl ⟨by rfl, ?_⟩) (by assumption) ?_
  rotate_left
  · (intro w_ hS_; (try dsimp only at hS_); go_simp; try with_reducible rfl)
  try simp only [Act.put, List.setIfInBounds_toArray, List.set_cons_zero, List.set_cons_succ]
  refine wpAnyH_take (i := 13) (oi := ⟨some 26, .move (.tmp 2), 43, "ref.go:61", #[], none⟩) (v := ?_) rfl (by kernel_rfl) (by kernel_rfl) (by kernel_rfl) (fun _ _ _ h => h) (Or.inl ⟨by rfl, ?_⟩) (by assumption) ?_
  rotate_left
  · (intro w_ hS_; (try dsimp only at hS_); go_simp; try with_reducible rfl)
  try simp only [Act.put, List.setIfInBounds_toArray, List.set_cons_zero, List.set_cons_succ]
  refine wpAnyH_ready (rs := [12]) (by kernel_rfl) (by simp) ?_
  refine AllReadyH.cons (o := ⟨some 25, .load 31 (.tmp 24), 31, "ref.go:61", #[⟨11, .data⟩], none⟩) rfl (fun K hK => ?_) AllReadyH.nil
  (have hq_ := hHeld; (try dsimp only at hq_))
  obtain ⟨⟨PG_2_1, PG_2_1'⟩, ⟨PL_2_1, PL_2_1'⟩, al0_2_1, al1_2_1, hF_2_1⟩ := hq_
  go_simp
  refine hK.out _ _ ?_ (fun hHeld => ?_)
  · (refine ⟨⟨by go_simp, by go_simp⟩, ⟨by go_simp, by go_simp⟩, by first | assumption | (go_simp; done), by first | assumption | (go_simp; done), by go_simp⟩)
  clear hK K
  try simp only [Act.put, List.setIfInBounds_toArray, List.set_cons_zero, List.set_cons_succ]
  refine wpAnyH_ready (rs := [14]) (by kernel_rfl) (by simp) ?_
  refine AllReadyH.cons (o := ⟨some 27, .call ⟨.value (.func 55), #[.tmp 25, .tmp 26], #[31, 43]⟩, 31, "ref.go:61", #[⟨12, .data⟩, ⟨13, .data⟩], none⟩) rfl (fun K hK => ?_) AllReadyH.nil
  (have hq_ := hHeld; (try dsimp only at hq_))
  obtain ⟨⟨PG_2_2, PG_2_2'⟩, ⟨PL_2_2, PL_2_2'⟩, al0_2_2, al1_2_2, hF_2_2⟩ := hq_
  go_simp
  refine (HR.out _).mono ?_
  rintro e u2_2 ⟨rfl, hb⟩
  refine hK.out _ _ ?_ (fun hHeld => ?_)
  · exact ⟨⟨rk1 PG_2_2 hb, rk2 PG_2_2 PG_2_2' hb⟩, ⟨rk1 PL_2_2 hb, by rw [rk3 PL_2_2 hb]; exact PL_2_2'⟩, st_mid al0_2_2 hb, st_spl al1_2_2 hb, AsideP.low hF_2_2 hb⟩
  clear hK K
  try simp only [Act.put, List.setIfInBounds_toArray, List.set_cons_zero, List.set_cons_succ]
  refine wpAnyH_take (i := 15) (oi := ⟨some 28, .indexAddr 75 (.tmp 16) (.tmp 17), 0, "ref.go:61", #[⟨3, .data⟩, ⟨4, .data⟩, ⟨0, .phase⟩, ⟨1, .phase⟩, ⟨2, .phase⟩, ⟨3, .phase⟩, ⟨4, .phase⟩, ⟨5, .phase⟩, ⟨6, .phase⟩, ⟨7, .phase⟩, ⟨8, .phase⟩, ⟨9, .phase⟩, ⟨10, .phase⟩, ⟨11, .phase⟩, ⟨12, .phase⟩, ⟨13, .phase⟩, ⟨14, .phase⟩], none⟩) (v := ?_) rfl (by kernel_rfl) (by kernel_rfl) (by kernel_rfl) (fun _ _ _ h => h) (Or.inl ⟨by rfl, ?_⟩) (by assumption) ?_
  rotate_left
  · (intro w_ hS_; (try dsimp only at hS_); go_simp; try with_reducible rfl)
  try simp only [Act.put, List.setIfInBounds_toArray, List.set_cons_zero, List.set_cons_succ]
  refine wpAnyH_take (i := 16) (oi := ⟨some 29, .fieldAddr 33 (.tmp 28) 0, 0, "ref.go:61", #[⟨15, .data⟩, ⟨0, .phase⟩, ⟨1, .phase⟩, ⟨2, .phase⟩, ⟨3, .phase⟩, ⟨4, .phase⟩, ⟨5, .phase⟩, ⟨6, .phase⟩, ⟨7, .phase⟩, ⟨8, .phase⟩, ⟨9, .phase⟩, ⟨10, .phase⟩, ⟨11, .phase⟩, ⟨12, .phase⟩, ⟨13, .phase⟩, ⟨14, .phase⟩], none⟩) (v := ?_) rfl (by kernel_rfl) (by kernel_rfl) (by kernel_rfl) (fun _ _ _ h => h) (Or.inl ⟨by rfl, ?_⟩) (by assumption) ?_
  rotate_left
  · (intro w_ hS_; (try dsimp only at hS_); go_simp; try with_reducible rfl)
  try simp only [Act.put, List.setIfInBounds_toArray, List.set_cons_zero, List.set_cons_succ]
  refine wpAnyH_ready (rs := [17]) (by kernel_rfl) (by simp) ?_
  refine AllReadyH.cons (o := ⟨none, .store 31 (.tmp 29) (.tmp 27), 0, "ref.go:61", #[⟨16, .data⟩, ⟨14, .data⟩, ⟨14, .chain⟩, ⟨0, .phase⟩, ⟨1, .phase⟩, ⟨2, .phase⟩, ⟨3, .phase⟩, ⟨4, .phase⟩, ⟨5, .phase⟩, ⟨6, .phase⟩, ⟨7, .phase⟩, ⟨8, .phase⟩, ⟨9, .phase⟩, ⟨10, .phase⟩, ⟨11, .phase⟩, ⟨12, .phase⟩, ⟨13, .phase⟩, ⟨14, .phase⟩], none⟩) rfl (fun K hK => ?_) AllReadyH.nil
  (have hq_ := hHeld; (try dsimp only at hq_))
  obtain ⟨⟨PG_2_3, PG_2_3'⟩, ⟨PL_2_3, PL_2_3'⟩, al0_2_3, al1_2_3, hF_2_3⟩ := hq_
  go_simp
  refine hK.out _ _ ?_ (fun hHeld => ?_)
  · (refine ⟨⟨by go_simp, by go_simp⟩, ⟨by go_simp, by go_simp⟩, by first | assumption | (go_simp; done), by first | assumption | (go_simp; done), by go_simp⟩)
  clear hK K
  try simp only [Act.put, List.setIfInBounds_toArray, List.set_cons_zero, List.set_cons_succ]
  refine wpAnyH_done (by kernel_rfl) ?_ _
  (try dsimp only at hHeld)
  go_split_ands
  go_wp2
  go_ret
  exact ⟨rfl, ⟨by go_simp, by go_simp⟩, by go_simp⟩
end Go.Proofs.Ytbglgblngfbhbaa.Bk

namespace Go.Proofs.Ytbglgblngfbhbaa.Bk
open Go.RowKit Go.Shelf Go.Proofs.Ytbglgblngfbhbaa.IAll Go.Proofs.YtbglgblngfbhbaaW.PrintWords Go.Proofs.YtbglgblngfbhbaaW.PrintLast Go.Proofs.YtbglgblngfbhbaaW.PrintMore
set_option linter.unusedVariables false
set_option linter.unusedSectionVars false
set_option linter.unusedSimpArgs false
attribute [local go_sem] Oper.semAt_some cell_row frozen_row isRow_setCell_eq rowAt_setCell_same rowAt_setCell_other isRow_alloc_eq rowAt_alloc rowAt_new rowAt_new' isRow_setRow_eq rowAt_setRow_same rowAt_setRow_other isRow_drew rowAt_drew size_setRow_ size_drew_ blk_ptr aggOf_agg offv_ptr below_alloc_e below_setCell_e below_setRow_e below_refl_e below_drew_r isRow_drewN rowAt_drewN below_drewN_e le_add_r asideP_alloc_e asideP_setCell_e asideP_setRow_e asideP_drew_e asideP_drewN_e asideP_refl_e allOne_nil allOne_cons Value.oneCell' addr_at mid_FT vE_size vL_size vQ_size vC_size vS_size vP_size vE_one vL_one vQ_one vC_one vS_one vP_one 
attribute [local go_sem ↓] loadE storeE loadEm storeEm loadEg storeEg loadEmg storeEmg loadL storeL loadLm storeLm loadQ storeQ loadQm storeQm loadC storeC loadCg storeCg loadS storeS loadSm loadP storeP loadPm loadPg storePg 
set_option maxRecDepth 100000

/-- where a bank lies -/
structure BSh where
  g : Nat
  e : Nat
  c : Nat
  T : List Value
structure BAt (b : BSh) (first : Int) (d : List E) (w : World) : Prop where
  row : Row w b.g #[.int .i64 first, .slice (some ⟨b.e, 0, none⟩) d.length b.c]
  ents : Row w b.e (FT eE d b.T)
  ne : ¬ b.g = b.e
/-- where the document's bank lies -/
structure RSh where
  g : Nat
  A : Option Addr
  A' : Option Addr
  c : Nat
  c' : Nat
  l : Nat
  x : Nat
  T : List Value
  T' : List Value
structure RAt (r : RSh) (first : Int) (d : List E) (w : World) : Prop where
  row : Row w r.g #[.int .i64 first, .slice r.A d.length r.c, .slice r.A' d.length r.c']
  pos : 0 < d.length → r.A = some ⟨r.l, 0, none⟩ ∧ r.A' = some ⟨r.x, 0, none⟩ ∧ Row w r.l (FT eEL d r.T) ∧ Row w r.x (FT eEX d r.T') ∧ ¬ r.g = r.l ∧ ¬ r.g = r.x ∧ ¬ r.l = r.x
theorem BAt.drew {b : BSh} {first : Int} {d : List E} {w : World} (h : BAt b first d w) : BAt b first d w.drew := ⟨h.row, h.ents, h.ne⟩
theorem RAt.drew {r : RSh} {first : Int} {d : List E} {w : World} (h : RAt r first d w) : RAt r first d w.drew := ⟨h.row, h.pos⟩
theorem BAt.gl {b : BSh} {first : Int} {d : List E} {w : World} (h : BAt b first d w) : b.g < w.heap.size := h.row.lt
theorem BAt.el {b : BSh} {first : Int} {d : List E} {w : World} (h : BAt b first d w) : b.e < w.heap.size := h.ents.lt
theorem RAt.gl {r : RSh} {first : Int} {d : List E} {w : World} (h : RAt r first d w) : r.g < w.heap.size := h.row.lt
/-- what both banks may turn -/
def RCh (r : RSh) (n k : Nat) : Prop := 0 < n ∧ (k = r.l ∨ k = r.x)
def Ch (b : BSh) (r : RSh) (n k : Nat) : Prop := k = b.e ∨ RCh r n k
theorem BAt.aside {b : BSh} {first : Int} {d : List E} {w w' : World} {P : Nat → Prop} (h : BAt b first d w) (a : AsideP P w w') (h1 : ¬ P b.g) (h2 : ¬ P b.e) : BAt b first d w' := ⟨a.row h.row h1, a.row h.ents h2, h.ne⟩
theorem RAt.aside {r : RSh} {first : Int} {d : List E} {w w' : World} {P : Nat → Prop} (h : RAt r first d w) (a : AsideP P w w') (h1 : ¬ P r.g) (h2 : 0 < d.length → ¬ P r.l ∧ ¬ P r.x) : RAt r first d w' :=
  ⟨a.row h.row h1, fun h0 => by
    obtain ⟨e1, e2, r1, r2, n1, n2, n3⟩ := h.pos h0
    exact ⟨e1, e2, a.row r1 (h2 h0).1, a.row r2 (h2 h0).2, n1, n2, n3⟩⟩
theorem BAt.below {b : BSh} {first : Int} {d : List E} {w w' : World} (h : BAt b first d w) (a : Below w.heap.size w w') : BAt b first d w' := h.aside (P := fun _ => False) (.of_below a) (fun h => h) (fun h => h)
theorem RAt.below {r : RSh} {first : Int} {d : List E} {w w' : World} (h : RAt r first d w) (a : Below w.heap.size w w') : RAt r first d w' := h.aside (P := fun _ => False) (.of_below a) (fun h => h) (fun _ => ⟨fun h => h, fun h => h⟩)
/-- the blocks of the two are apart -/
structure Apart (b : BSh) (r : RSh) (n : Nat) : Prop where
  bg : ¬ b.g = r.g
  eg : ¬ b.e = r.g
  pos : 0 < n → ¬ b.g = r.l ∧ ¬ b.g = r.x ∧ ¬ b.e = r.l ∧ ¬ b.e = r.x
instance (x : E) : Decidable (goodE x) := by unfold goodE; infer_instance
def kOf (first id : Int) : Nat := (id - first).toNat
def putR (first : Int) (d : List E) (id : Int) (x : E) : Int := if hasB first d.length id then (if goodE x then 0 else 1) else 90
def putL (first : Int) (d : List E) (id : Int) (x : E) : List E := if hasB first d.length id ∧ goodE x then d.set (kOf first id) (setE x) else d
def doR (first : Int) (d : List E) (id : Int) : Int := if hasB first d.length id then 0 else 90
def doL (first : Int) (d : List E) (id a : Int) : List E := if hasB first d.length id then d.modify (kOf first id) (fun x => doE x a) else d
theorem putL_len (first : Int) (d : List E) (id : Int) (x : E) : (putL first d id x).length = d.length := by unfold putL; split <;> simp
theorem doL_len (first : Int) (d : List E) (id a : Int) : (doL first d id a).length = d.length := by unfold doL; split <;> simp
theorem modify_at {d : List E} {k : Nat} {x : E} (f : E → E) (h : d[k]? = some x) : d.modify k f = d.set k (f x) := by
  have hk := (List.getElem?_eq_some_iff.1 h).1
  apply List.ext_getElem?
  intro j
  rw [List.getElem?_modify, List.getElem?_set]
  by_cases hj : k = j
  · subst hj
    have e := (List.getElem?_eq_some_iff.1 h).2
    simp [hk, e]
  · simp [hj]
theorem Put_c (b : BSh) (first id : Int) (d : List E) (x : E) (w : World) (h : BAt b first d w) (h0 : 0 ≤ first) (hi : Wid id) :
    Calls Try.prog 18 #[.pointer (some ⟨b.g, 0, none⟩), .int .i64 id, .agg (vE x)] w fun e w' => e = .returned (.int .i64 (putR first d id x)) ∧ BAt b first (putL first d id x) w' ∧ AsideP (fun k => k = b.e) w w' := by
  unfold putR putL
  cases hh : hasB first d.length id with
  | false =>
    refine (Put_miss b.g b.e b.c d.length first id x w h.row hh h0 hi).mono ?_
    rintro e w' ⟨rfl, hb⟩
    exact ⟨rfl, by simpa using h.below hb, .of_below hb⟩
  | true =>
    by_cases hx : goodE x
    · obtain ⟨k, hk, rfl⟩ := hasB_yes hh
      refine (Put_hit b.g b.e b.c d.length first d b.T k x w rfl h.row h.ents h.ne hk h0 hi hx).mono ?_
      rintro e w' ⟨rfl, hr, ha⟩
      refine ⟨by simp [hx], ?_, ha⟩
      rw [if_pos ⟨rfl, hx⟩, show kOf first (first + k) = k by unfold kOf; omega]
      exact ⟨by rw [List.length_set]; exact ha.row h.row h.ne, hr, h.ne⟩
    · refine (Put_bad b.g b.e b.c d.length first id x w h.row hh h0 hi hx).mono ?_
      rintro e w' ⟨rfl, hb⟩
      exact ⟨by simp [hx], by simpa [hx] using h.below hb, .of_below hb⟩
theorem Do_c (b : BSh) (first id a : Int) (d : List E) (w : World) (h : BAt b first d w) (h0 : 0 ≤ first) (hi : Wid id) :
    Calls Try.prog 17 #[.pointer (some ⟨b.g, 0, none⟩), .int .i64 id, .int .i64 a] w fun e w' => e = .returned (.int .i64 (doR first d id)) ∧ BAt b first (doL first d id a) w' ∧ AsideP (fun k => k = b.e) w w' := by
  unfold doR doL
  cases hh : hasB first d.length id with
  | false =>
    refine (Do_miss b.g b.e b.c d.length first id a w h.row hh h0 hi).mono ?_
    rintro e w' ⟨rfl, hb⟩
    exact ⟨rfl, by simpa using h.below hb, .of_below hb⟩
  | true =>
    obtain ⟨k, hk, rfl⟩ := hasB_yes hh
    refine (Do_hit b.g b.e b.c d.length first a d b.T k d[k] w rfl h.row h.ents h.ne (List.getElem?_eq_getElem hk) h0 hi).mono ?_
    rintro e w' ⟨rfl, hr, ha⟩
    refine ⟨rfl, ?_, ha⟩
    rw [if_pos rfl, show kOf first (first + k) = k by unfold kOf; omega, modify_at _ (List.getElem?_eq_getElem hk)]
    exact ⟨by rw [List.length_set]; exact ha.row h.row h.ne, hr, h.ne⟩
theorem Reset_b (b : BSh) (first : Int) (d : List E) (w : World) (h : BAt b first d w) (hn : d.length ≤ 16384) :
    Calls Try.prog 21 #[.pointer (some ⟨b.g, 0, none⟩)] w fun e w' => e = .returned (.tuple #[]) ∧ BAt b first (d.map zeroE) w' ∧ AsideP (fun k => k = b.e) w w' := by
  refine (Reset_c b.g b.e b.c d.length first d b.T w rfl h.row h.ents h.ne hn).mono ?_
  rintro e w' ⟨rfl, hr, ha⟩
  exact ⟨rfl, ⟨by rw [List.length_map]; exact ha.row h.row h.ne, hr, h.ne⟩, ha⟩
theorem rPut_c (r : RSh) (first id : Int) (d : List E) (x : E) (w : World) (h : RAt r first d w) (h0 : 0 ≤ first) (h1 : first + d.length ≤ 16384) :
    Calls Try.prog 46 #[.pointer (some ⟨r.g, 0, none⟩), .int .i64 id, .agg (vL x.l), .string x.f7] w fun e w' => e = .returned (.int .i64 (putR first d id x)) ∧ RAt r first (putL first d id x) w' ∧ AsideP (RCh r d.length) w w' := by
  unfold putR putL
  cases hh : hasB first d.length id with
  | false =>
    refine (rPut_miss r.g r.c r.c' d.length r.A r.A' first id x.l x.f7 w h.row h0 h1 hh).mono ?_
    rintro e w' ⟨rfl, hb⟩
    exact ⟨rfl, by simpa using h.below hb, .of_below hb⟩
  | true =>
    by_cases hx : goodE x
    · obtain ⟨k, hk, rfl⟩ := hasB_yes hh
      have hp : 0 < d.length := by omega
      obtain ⟨e1, e2, r1, r2, n1, n2, n3⟩ := h.pos hp
      have hrow := h.row
      rw [e1, e2] at hrow
      refine (rPut_hit r.g r.c r.c' d.length r.l r.x first d r.T r.T' k x w rfl hrow r1 r2 n1 n2 n3 hk h0 h1 hx).mono ?_
      rintro e w' ⟨rfl, q1, q2, ha⟩
      have ha' : AsideP (RCh r d.length) w w' := ⟨ha.os, ha.tape, ha.output, ha.size, fun j hj hn => ha.block j hj (fun h => hn ⟨hp, h⟩)⟩
      refine ⟨by simp [hx], ?_, ha'⟩
      rw [if_pos ⟨rfl, hx⟩, show kOf first (first + k) = k by unfold kOf; omega]
      refine ⟨by rw [List.length_set]; exact ha.row h.row (fun h => by rcases h with h | h; exact n1 h; exact n2 h), fun _ => ⟨e1, e2, q1, q2, n1, n2, n3⟩⟩
    · refine (rPut_bad r.g r.c r.c' d.length r.A r.A' first id x.l x.f7 w h.row h0 h1 hh hx).mono ?_
      rintro e w' ⟨rfl, hb⟩
      exact ⟨by simp [hx], by simpa [hx] using h.below hb, .of_below hb⟩
theorem rDo_c (r : RSh) (first id a : Int) (d : List E) (w : World) (h : RAt r first d w) (h0 : 0 ≤ first) (h1 : first + d.length ≤ 16384) :
    Calls Try.prog 47 #[.pointer (some ⟨r.g, 0, none⟩), .int .i64 id, .int .i64 a] w fun e w' => e = .returned (.int .i64 (doR first d id)) ∧ RAt r first (doL first d id a) w' ∧ AsideP (RCh r d.length) w w' := by
  unfold doR doL
  cases hh : hasB first d.length id with
  | false =>
    refine (rDo_miss r.g r.c r.c' d.length r.A r.A' first id a w h.row h0 h1 hh).mono ?_
    rintro e w' ⟨rfl, hb⟩
    exact ⟨rfl, by simpa using h.below hb, .of_below hb⟩
  | true =>
    obtain ⟨k, hk, rfl⟩ := hasB_yes hh
    have hp : 0 < d.length := by omega
    obtain ⟨e1, e2, r1, r2, n1, n2, n3⟩ := h.pos hp
    have hrow := h.row
    rw [e1, e2] at hrow
    refine (rDo_hit r.g r.c r.c' d.length r.l r.x first a d r.T k d[k] w rfl hrow r1 n1 (List.getElem?_eq_getElem hk) h0 h1).mono ?_
    rintro e w' ⟨rfl, q1, ha⟩
    have ha' : AsideP (RCh r d.length) w w' := ⟨ha.os, ha.tape, ha.output, ha.size, fun j hj hn => ha.block j hj (fun h => hn ⟨hp, .inl h⟩)⟩
    refine ⟨rfl, ?_, ha'⟩
    rw [if_pos rfl, show kOf first (first + k) = k by unfold kOf; omega, modify_at _ (List.getElem?_eq_getElem hk)]
    refine ⟨by rw [List.length_set]; exact ha.row h.row n1, fun _ => ⟨e1, e2, q1, ?_, n1, n2, n3⟩⟩
    have q2 := ha.row r2 (fun e => n3 e.symm)
    have e3 : FT eEX (d.set k (doE d[k] a)) r.T' = FT eEX d r.T' := by
      unfold FT fl
      congr 2
      obtain ⟨p, q, e4, e5⟩ := list_at (List.getElem?_eq_getElem hk)
      generalize d[k] = y at *
      rw [e4, ← e5, set_mid]
      simp [eEX, doE]
    rw [e3]
    exact q2
end Go.Proofs.Ytbglgblngfbhbaa.Bk

namespace Go.Proofs.Ytbglgblngfbhbaa.Bk
open Go.RowKit Go.Shelf Go.Proofs.Ytbglgblngfbhbaa.IAll Go.Proofs.YtbglgblngfbhbaaW.PrintWords Go.Proofs.YtbglgblngfbhbaaW.PrintLast Go.Proofs.YtbglgblngfbhbaaW.PrintMore
set_option linter.unusedVariables false
set_option linter.unusedSectionVars false
set_option linter.unusedSimpArgs false
def S.e (x : S) : E := ⟨x.f2, x.f3, x.f4, x.f5, x.f6, x.f7, x.f8, x.f9⟩
theorem mid_vS {x : S} : Mid (vS x) = True := rfl
theorem vS_extl {x : S} : (vS x).extract 2 9 = #[.bool x.f2, .bool x.f3, .bool x.f4, .bool x.f5, .bool x.f6, .int .i64 x.f7, .int .i64 x.f8] := rfl
theorem aside_more {P P' : Nat → Prop} {w w' : World} (h : AsideP P w w') (hp : ∀ k, P k → P' k) : AsideP P' w w' := ⟨h.os, h.tape, h.output, h.size, fun k hk hn => h.block k hk (fun e => hn (hp k e))⟩
attribute [local go_sem] Oper.semAt_some cell_row frozen_row isRow_setCell_eq rowAt_setCell_same rowAt_setCell_other isRow_alloc_eq rowAt_alloc rowAt_new rowAt_new' isRow_setRow_eq rowAt_setRow_same rowAt_setRow_other isRow_drew rowAt_drew size_setRow_ size_drew_ blk_ptr aggOf_agg offv_ptr below_alloc_e below_setCell_e below_setRow_e below_refl_e below_drew_r isRow_drewN rowAt_drewN below_drewN_e le_add_r asideP_alloc_e asideP_setCell_e asideP_setRow_e asideP_drew_e asideP_drewN_e asideP_refl_e allOne_nil allOne_cons Value.oneCell' addr_at mid_FT vE_size vL_size vQ_size vC_size vS_size vP_size vE_one vL_one vQ_one vC_one vS_one vP_one mid_spl spl_size spl_spl mid_vS vS_extl vS_0 vS_1 vS_2 vS_3 vS_4 vS_5 vS_6 vS_7 vS_8 vS_9 vS_10
attribute [local go_sem ↓] loadE storeE loadEm storeEm loadEg storeEg loadEmg storeEmg loadL storeL loadLm storeLm loadQ storeQ loadQm storeQm loadC storeC loadCg storeCg loadS storeS loadSm loadP storeP loadPm loadPg storePg 
set_option maxRecDepth 100000

def actL (first : Int) (d : List E) (x : S) : List E :=
  if x.f0 = 1 then putL first d x.f1 x.e else if x.f0 = 2 then doL first d x.f1 x.f10 else if x.f0 = 3 then d.map zeroE else d
theorem actL_len (first : Int) (d : List E) (x : S) : (actL first d x).length = d.length := by
  unfold actL
  split
  · exact putL_len _ _ _ _
  · split
    · exact doL_len _ _ _ _
    · split
      · simp
      · rfl
theorem fx_eq {a b : List E} {T : List Value} (h : a.map E.f7 = b.map E.f7) : FT eEX a T = FT eEX b T := by
  have e : ∀ l : List E, fl eEX l = (l.map E.f7).map Value.string := fun l => by induction l with | nil => rfl | cons x r ih => rw [fl_cons, ih]; rfl
  unfold FT
  rw [e, e, h]
theorem zeroed_f7 (d : List E) (k : Nat) : (zeroed d k).map E.f7 = d.map E.f7 := by
  unfold zeroed
  rw [List.map_append, List.map_map]
  have : (E.f7 ∘ zeroE) = E.f7 := by funext x; rfl
  rw [this, ← List.map_append, List.take_append_drop]
section
variable (b : BSh) (r : RSh) (first : Int) (d : List E) (x : S) (w : World) (hB : BAt b first d w) (hR : RAt r first d w) (hAp : Apart b r d.length) (h0 : 0 ≤ first) (h1 : first + d.length ≤ 16384) (hi : Wid x.f1)
include hB hR hAp h0 h1
set_option maxHeartbeats 2000000 in
include hi in
theorem does1 (hx : x.f0 = 1) : Calls Try.prog 30 #[.pointer (some ⟨b.g, 0, none⟩), .pointer (some ⟨r.g, 0, none⟩), .agg (vS x)] w fun e w' => e = .returned (.bool true) ∧ BAt b first (putL first d x.f1 x.e) w' ∧ RAt r first (putL first d x.f1 x.e) w' ∧ AsideP (Ch b r d.length) w w' := by
  have lb := hB.gl
  have le := hB.el
  have hAl : Below w.heap.size w (w.alloc (.cells (vS x) 45)) := (Below.refl _ w).alloc (Nat.le_refl _) _
  have hB0 := (hB.below hAl).drew
  have hR0 := (hR.below hAl).drew
  have q1 : (x.f0 == 1) = true := by simp [hx]
  clear hx
  go_enter Try.func30, Try.ntmps30
  go_wp2_with fail
  refine wp_region_held_drew (S := (fun w' => Row w' w.heap.size (vS x) ∧ AsideP (Ch b r d.length) w w')) (by kernel_rfl) ⟨⟨by go_simp, by go_simp⟩, by go_simp⟩ (fun hHeld => ?_)
  refine wpAnyH_take (i := 0) (oi := ⟨some 12, .move (.tmp 0), 23, "law.go:65", #[], none⟩) (v := ?_) rfl (by kernel_rfl) (by kernel_rfl) (by kernel_rfl) (fun _ _ _ h => h) (Or.inl ⟨by rfl, ?_⟩) (by assumption) ?_
  rotate_left
  · (intro w_ hS_; (try dsimp only at hS_); obtain ⟨⟨s1, s1'⟩, -⟩ := hS_; go_simp; try with_reducible rfl)
  try simp only [Act.put, List.setIfInBounds_toArray, List.set_cons_zero, List.set_cons_succ]
  refine wpAnyH_take (i := 1) (oi := ⟨some 13, .fieldAddr 45 (.tmp 5) 1, 0, "law.go:65", #[], none⟩) (v := ?_) rfl (by kernel_rfl) (by kernel_rfl) (by kernel_rfl) (fun _ _ _ h => h) (Or.inl ⟨by rfl, ?_⟩) (by assumption) ?_
  rotate_left
  · (intro w_ hS_; (try dsimp only at hS_); obtain ⟨⟨s1, s1'⟩, -⟩ := hS_; go_simp; try with_reducible rfl)
  try simp only [Act.put, List.setIfInBounds_toArray, List.set_cons_zero, List.set_cons_succ]
  refine wpAnyH_take (i := 2) (oi := ⟨some 14, .load 3 (.tmp 13), 3, "law.go:65", #[⟨1, .data⟩], none⟩) (v := ?_) rfl (by kernel_rfl) (by kernel_rfl) (by kernel_rfl) (fun _ _ _ h => h) (Or.inl ⟨by rfl, ?_⟩) (by assumption) ?_
  rotate_left
  · (intro w_ hS_; (try dsimp only at hS_); obtain ⟨⟨s1, s1'⟩, -⟩ := hS_; go_simp; try with_reducible rfl)
  try simp only [Act.put, List.setIfInBounds_toArray, List.set_cons_zero, List.set_cons_succ]
  refine wpAnyH_take (i := 3) (oi := ⟨some 15, .fieldAddr 45 (.tmp 5) 2, 0, "law.go:65", #[], none⟩) (v := ?_) rfl (by kernel_rfl) (by kernel_rfl) (by kernel_rfl) (fun _ _ _ h => h) (Or.inl ⟨by rfl, ?_⟩) (by assumption) ?_
  rotate_left
  · (intro w_ hS_; (try dsimp only at hS_); obtain ⟨⟨s1, s1'⟩, -⟩ := hS_; go_simp; try with_reducible rfl)
  try simp only [Act.put, List.setIfInBounds_toArray, List.set_cons_zero, List.set_cons_succ]
  refine wpAnyH_take (i := 4) (oi := ⟨some 16, .load 33 (.tmp 15), 33, "law.go:65", #[⟨3, .data⟩], none⟩) (v := ?_) rfl (by kernel_rfl) (by kernel_rfl) (by kernel_rfl) (fun _ _ _ h => h) (Or.inl ⟨by rfl, ?_⟩) (by assumption) ?_
  rotate_left
  · (intro w_ hS_; (try dsimp only at hS_); obtain ⟨⟨s1, s1'⟩, -⟩ := hS_; go_simp; try with_reducible rfl)
  try simp only [Act.put, List.setIfInBounds_toArray, List.set_cons_zero, List.set_cons_succ]
  refine wpAnyH_take (i := 5) (oi := ⟨some 17, .fieldAddr 45 (.tmp 5) 3, 0, "law.go:65", #[], none⟩) (v := ?_) rfl (by kernel_rfl) (by kernel_rfl) (by kernel_rfl) (fun _ _ _ h => h) (Or.inl ⟨by rfl, ?_⟩) (by assumption) ?_
  rotate_left
  · (intro w_ hS_; (try dsimp only at hS_); obtain ⟨⟨s1, s1'⟩, -⟩ := hS_; go_simp; try with_reducible rfl)
  try simp only [Act.put, List.setIfInBounds_toArray, List.set_cons_zero, List.set_cons_succ]
  refine wpAnyH_take (i := 6) (oi := ⟨some 18, .load 9 (.tmp 17), 9, "law.go:65", #[⟨5, .data⟩], none⟩) (v := ?_) rfl (by kernel_rfl) (by kernel_rfl) (by kernel_rfl) (fun _ _ _ h => h) (Or.inl ⟨by rfl, ?_⟩) (by assumption) ?_
  rotate_left
  · (intro w_ hS_; (try dsimp only at hS_); obtain ⟨⟨s1, s1'⟩, -⟩ := hS_; go_simp; try with_reducible rfl)
  try simp only [Act.put, List.setIfInBounds_toArray, List.set_cons_zero, List.set_cons_succ]
  refine wpAnyH_take (i := 7) (oi := ⟨some 19, .build 35 #[(0, .tmp 16), (1, .tmp 18)], 35, "law.go:65", #[⟨4, .data⟩, ⟨6, .data⟩], none⟩) (v := ?_) rfl (by kernel_rfl) (by kernel_rfl) (by kernel_rfl) (fun _ _ _ h => h) (Or.inl ⟨by rfl, ?_⟩) (by assumption) ?_
  rotate_left
  · (intro w_ hS_; (try dsimp only at hS_); obtain ⟨⟨s1, s1'⟩, -⟩ := hS_; go_simp; try with_reducible rfl)
  try simp only [Act.put, List.setIfInBounds_toArray, List.set_cons_zero, List.set_cons_succ]
  refine wpAnyH_take (i := 9) (oi := ⟨some 21, .move (.tmp 1), 27, "law.go:65", #[], none⟩) (v := ?_) rfl (by kernel_rfl) (by kernel_rfl) (by kernel_rfl) (fun _ _ _ h => h) (Or.inl ⟨by rfl, ?_⟩) (by assumption) ?_
  rotate_left
  · (intro w_ hS_; (try dsimp only at hS_); obtain ⟨⟨s1, s1'⟩, -⟩ := hS_; go_simp; try with_reducible rfl)
  try simp only [Act.put, List.setIfInBounds_toArray, List.set_cons_zero, List.set_cons_succ]
  refine wpAnyH_take (i := 10) (oi := ⟨some 22, .fieldAddr 45 (.tmp 5) 1, 0, "law.go:65", #[], none⟩) (v := ?_) rfl (by kernel_rfl) (by kernel_rfl) (by kernel_rfl) (fun _ _ _ h => h) (Or.inl ⟨by rfl, ?_⟩) (by assumption) ?_
  rotate_left
  · (intro w_ hS_; (try dsimp only at hS_); obtain ⟨⟨s1, s1'⟩, -⟩ := hS_; go_simp; try with_reducible rfl)
  try simp only [Act.put, List.setIfInBounds_toArray, List.set_cons_zero, List.set_cons_succ]
  refine wpAnyH_take (i := 11) (oi := ⟨some 23, .load 3 (.tmp 22), 3, "law.go:65", #[⟨10, .data⟩], none⟩) (v := ?_) rfl (by kernel_rfl) (by kernel_rfl) (by kernel_rfl) (fun _ _ _ h => h) (Or.inl ⟨by rfl, ?_⟩) (by assumption) ?_
  rotate_left
  · (intro w_ hS_; (try dsimp only at hS_); obtain ⟨⟨s1, s1'⟩, -⟩ := hS_; go_simp; try with_reducible rfl)
  try simp only [Act.put, List.setIfInBounds_toArray, List.set_cons_zero, List.set_cons_succ]
  refine wpAnyH_take (i := 12) (oi := ⟨some 24, .fieldAddr 45 (.tmp 5) 2, 0, "law.go:65", #[], none⟩) (v := ?_) rfl (by kernel_rfl) (by kernel_rfl) (by kernel_rfl) (fun _ _ _ h => h) (Or.inl ⟨by rfl, ?_⟩) (by assumption) ?_
  rotate_left
  · (intro w_ hS_; (try dsimp only at hS_); obtain ⟨⟨s1, s1'⟩, -⟩ := hS_; go_simp; try with_reducible rfl)
  try simp only [Act.put, List.setIfInBounds_toArray, List.set_cons_zero, List.set_cons_succ]
  refine wpAnyH_take (i := 13) (oi := ⟨some 25, .load 33 (.tmp 24), 33, "law.go:65", #[⟨12, .data⟩], none⟩) (v := ?_) rfl (by kernel_rfl) (by kernel_rfl) (by kernel_rfl) (fun _ _ _ h => h) (Or.inl ⟨by rfl, ?_⟩) (by assumption) ?_
  rotate_left
  · (intro w_ hS_; (try dsimp only at hS_); obtain ⟨⟨s1, s1'⟩, -⟩ := hS_; go_simp; try with_reducible rfl)
  try simp only [Act.put, List.setIfInBounds_toArray, List.set_cons_zero, List.set_cons_succ]
  refine wpAnyH_take (i := 14) (oi := ⟨some 26, .fieldAddr 45 (.tmp 5) 3, 0, "law.go:65", #[], none⟩) (v := ?_) rfl (by kernel_rfl) (by kernel_rfl) (by kernel_rfl) (fun _ _ _ h => h) (Or.inl ⟨by rfl, ?_⟩) (by assumption) ?_
  rotate_left
  · (intro w_ hS_; (try dsimp only at hS_); obtain ⟨⟨s1, s1'⟩, -⟩ := hS_; go_simp; try with_reducible rfl)
  try simp only [Act.put, List.setIfInBounds_toArray, List.set_cons_zero, List.set_cons_succ]
  refine wpAnyH_take (i := 15) (oi := ⟨some 27, .load 9 (.tmp 26), 9, "law.go:65", #[⟨14, .data⟩], none⟩) (v := ?_) rfl (by kernel_rfl) (by kernel_rfl) (by kernel_rfl) (fun _ _ _ h => h) (Or.inl ⟨by rfl, ?_⟩) (by assumption) ?_
  rotate_left
  · (intro w_ hS_; (try dsimp only at hS_); obtain ⟨⟨s1, s1'⟩, -⟩ := hS_; go_simp; try with_reducible rfl)
  try simp only [Act.put, List.setIfInBounds_toArray, List.set_cons_zero, List.set_cons_succ]
  refine wpAnyH_ready (rs := [8]) (by kernel_rfl) (by simp) ?_
  refine AllReadyH.cons (o := ⟨some 20, .call ⟨.value (.func 18), #[.tmp 12, .tmp 14, .tmp 19], #[23, 3, 35]⟩, 24, "law.go:65", #[⟨0, .data⟩, ⟨2, .data⟩, ⟨7, .data⟩], none⟩) rfl (fun K hK => ?_) AllReadyH.nil
  go_simp
  (have hq_ := hHeld; (try dsimp only at hq_))
  obtain ⟨hs1, hf1⟩ := hq_
  refine (Put_c b first x.f1 d x.e _ hB0 h0 hi).mono ?_
  rintro e u1 ⟨rfl, hB1, hA1⟩
  have hR1 := hR0.aside hA1 (fun e => hAp.eg e.symm) (fun hp => ⟨fun e => (hAp.pos hp).2.2.1 e.symm, fun e => (hAp.pos hp).2.2.2 e.symm⟩)
  refine hK.out _ _ ⟨hA1.row hs1 (by omega), hf1.trans (aside_more hA1 (fun k hk => .inl hk))⟩ (fun hHeld => ?_)
  clear hK K
  try simp only [Act.put, List.setIfInBounds_toArray, List.set_cons_zero, List.set_cons_succ]
  refine wpAnyH_ready (rs := [16]) (by kernel_rfl) (by simp) ?_
  refine AllReadyH.cons (o := ⟨some 28, .call ⟨.value (.func 46), #[.tmp 21, .tmp 23, .tmp 25, .tmp 27], #[27, 3, 33, 9]⟩, 24, "law.go:65", #[⟨9, .data⟩, ⟨11, .data⟩, ⟨13, .data⟩, ⟨15, .data⟩, ⟨8, .chain⟩], none⟩) rfl (fun K hK => ?_) AllReadyH.nil
  go_simp
  (have hq_ := hHeld; (try dsimp only at hq_))
  obtain ⟨hs2, hf2⟩ := hq_
  refine (rPut_c r first x.f1 d x.e _ hR1 h0 h1).mono ?_
  rintro e u2 ⟨rfl, hR2, hA2⟩
  have hl_ : 0 < d.length → r.l < w.heap.size ∧ r.x < w.heap.size := fun hp => ⟨(hR.pos hp).2.2.1.lt, (hR.pos hp).2.2.2.1.lt⟩
  have hB2 := hB1.aside hA2 (fun h => by have := hAp.pos h.1; rcases h.2 with e | e; exact this.1 e; exact this.2.1 e) (fun h => by have := hAp.pos h.1; rcases h.2 with e | e; exact this.2.2.1 e; exact this.2.2.2 e)
  refine hK.out _ _ ⟨hA2.row hs2 (fun h => by have := hl_ h.1; have := h.2; omega), hf2.trans (aside_more hA2 (fun k hk => .inr hk))⟩ (fun hHeld => ?_)
  clear hK K
  try simp only [Act.put, List.setIfInBounds_toArray, List.set_cons_zero, List.set_cons_succ]
  refine wpAnyH_take (i := 17) (oi := ⟨some 29, .binOp .eql 24 (.tmp 20) (.tmp 28) 24, 4, "law.go:65", #[⟨8, .data⟩, ⟨16, .data⟩], none⟩) (v := ?_) rfl (by kernel_rfl) (by kernel_rfl) (by kernel_rfl) (fun _ _ _ h => h) (Or.inl ⟨by rfl, ?_⟩) (by assumption) ?_
  rotate_left
  · (intro w_ hS_; (try dsimp only at hS_); obtain ⟨⟨s1, s1'⟩, -⟩ := hS_; go_simp; try with_reducible rfl)
  try simp only [Act.put, List.setIfInBounds_toArray, List.set_cons_zero, List.set_cons_succ]
  refine wpAnyH_take (i := 18) (oi := ⟨some 6, .assign (.tmp 29), 4, "law.go:65", #[⟨17, .data⟩, ⟨16, .chain⟩, ⟨0, .phase⟩, ⟨1, .phase⟩, ⟨2, .phase⟩, ⟨3, .phase⟩, ⟨4, .phase⟩, ⟨5, .phase⟩, ⟨6, .phase⟩, ⟨7, .phase⟩, ⟨8, .phase⟩, ⟨9, .phase⟩, ⟨10, .phase⟩, ⟨11, .phase⟩, ⟨12, .phase⟩, ⟨13, .phase⟩, ⟨14, .phase⟩, ⟨15, .phase⟩, ⟨16, .phase⟩, ⟨17, .phase⟩], none⟩) (v := ?_) rfl (by kernel_rfl) (by kernel_rfl) (by kernel_rfl) (fun _ _ _ h => h) (Or.inl ⟨by rfl, ?_⟩) (by assumption) ?_
  rotate_left
  · (intro w_ hS_; (try dsimp only at hS_); obtain ⟨⟨s1, s1'⟩, -⟩ := hS_; go_simp; try with_reducible rfl)
  try simp only [Act.put, List.setIfInBounds_toArray, List.set_cons_zero, List.set_cons_succ]
  refine wpAnyH_done (by kernel_rfl) ?_ _
  (try dsimp only at hHeld)
  obtain ⟨-, hfin⟩ := hHeld
  have HF := Lib.hid hfin
  have HB2 := Lib.hid hB2
  have HR2 := Lib.hid hR2
  clear hB0 hR0 hB hR hB1 hR1 hB2 hR2 hA1 hA2 hs1 hs2 hf1 hf2 hfin
  go_wp2
  go_ret
  exact ⟨by simp, HB2.out, HR2.out, HF.out⟩
set_option maxHeartbeats 2000000 in
include hi in
theorem does2 (hx : x.f0 = 2) : Calls Try.prog 30 #[.pointer (some ⟨b.g, 0, none⟩), .pointer (some ⟨r.g, 0, none⟩), .agg (vS x)] w fun e w' => e = .returned (.bool true) ∧ BAt b first (doL first d x.f1 x.f10) w' ∧ RAt r first (doL first d x.f1 x.f10) w' ∧ AsideP (Ch b r d.length) w w' := by
  have lb := hB.gl
  have le := hB.el
  have hAl : Below w.heap.size w (w.alloc (.cells (vS x) 45)) := (Below.refl _ w).alloc (Nat.le_refl _) _
  have hB0 := (hB.below hAl).drew
  have hR0 := (hR.below hAl).drew
  have q1 : (x.f0 == 1) = false := by simp [hx]
  have q2 : (x.f0 == 2) = true := by simp [hx]
  clear hx
  go_enter Try.func30, Try.ntmps30
  go_wp2_with fail
  refine wp_region_held_drew (S := (fun w' => Row w' w.heap.size (vS x) ∧ AsideP (Ch b r d.length) w w')) (by kernel_rfl) ⟨⟨by go_simp, by go_simp⟩, by go_simp⟩ (fun hHeld => ?_)
  refine wpAnyH_take (i := 0) (oi := ⟨some 32, .move (.tmp 0), 23, "law.go:67", #[], none⟩) (v := ?_) rfl (by kernel_rfl) (by kernel_rfl) (by kernel_rfl) (fun _ _ _ h => h) (Or.inl ⟨by rfl, ?_⟩) (by assumption) ?_
  rotate_left
  · (intro w_ hS_; (try dsimp only at hS_); obtain ⟨⟨s1, s1'⟩, -⟩ := hS_; go_simp; try with_reducible rfl)
  try simp only [Act.put, List.setIfInBounds_toArray, List.set_cons_zero, List.set_cons_succ]
  refine wpAnyH_take (i := 1) (oi := ⟨some 33, .fieldAddr 45 (.tmp 5) 1, 0, "law.go:67", #[], none⟩) (v := ?_) rfl (by kernel_rfl) (by kernel_rfl) (by kernel_rfl) (fun _ _ _ h => h) (Or.inl ⟨by rfl, ?_⟩) (by assumption) ?_
  rotate_left
  · (intro w_ hS_; (try dsimp only at hS_); obtain ⟨⟨s1, s1'⟩, -⟩ := hS_; go_simp; try with_reducible rfl)
  try simp only [Act.put, List.setIfInBounds_toArray, List.set_cons_zero, List.set_cons_succ]
  refine wpAnyH_take (i := 2) (oi := ⟨some 34, .load 3 (.tmp 33), 3, "law.go:67", #[⟨1, .data⟩], none⟩) (v := ?_) rfl (by kernel_rfl) (by kernel_rfl) (by kernel_rfl) (fun _ _ _ h => h) (Or.inl ⟨by rfl, ?_⟩) (by assumption) ?_
  rotate_left
  · (intro w_ hS_; (try dsimp only at hS_); obtain ⟨⟨s1, s1'⟩, -⟩ := hS_; go_simp; try with_reducible rfl)
  try simp only [Act.put, List.setIfInBounds_toArray, List.set_cons_zero, List.set_cons_succ]
  refine wpAnyH_take (i := 3) (oi := ⟨some 35, .fieldAddr 45 (.tmp 5) 4, 0, "law.go:67", #[], none⟩) (v := ?_) rfl (by kernel_rfl) (by kernel_rfl) (by kernel_rfl) (fun _ _ _ h => h) (Or.inl ⟨by rfl, ?_⟩) (by assumption) ?_
  rotate_left
  · (intro w_ hS_; (try dsimp only at hS_); obtain ⟨⟨s1, s1'⟩, -⟩ := hS_; go_simp; try with_reducible rfl)
  try simp only [Act.put, List.setIfInBounds_toArray, List.set_cons_zero, List.set_cons_succ]
  refine wpAnyH_take (i := 4) (oi := ⟨some 36, .load 43 (.tmp 35), 43, "law.go:67", #[⟨3, .data⟩], none⟩) (v := ?_) rfl (by kernel_rfl) (by kernel_rfl) (by kernel_rfl) (fun _ _ _ h => h) (Or.inl ⟨by rfl, ?_⟩) (by assumption) ?_
  rotate_left
  · (intro w_ hS_; (try dsimp only at hS_); obtain ⟨⟨s1, s1'⟩, -⟩ := hS_; go_simp; try with_reducible rfl)
  try simp only [Act.put, List.setIfInBounds_toArray, List.set_cons_zero, List.set_cons_succ]
  refine wpAnyH_take (i := 6) (oi := ⟨some 38, .move (.tmp 1), 27, "law.go:67", #[], none⟩) (v := ?_) rfl (by kernel_rfl) (by kernel_rfl) (by kernel_rfl) (fun _ _ _ h => h) (Or.inl ⟨by rfl, ?_⟩) (by assumption) ?_
  rotate_left
  · (intro w_ hS_; (try dsimp only at hS_); obtain ⟨⟨s1, s1'⟩, -⟩ := hS_; go_simp; try with_reducible rfl)
  try simp only [Act.put, List.setIfInBounds_toArray, List.set_cons_zero, List.set_cons_succ]
  refine wpAnyH_take (i := 7) (oi := ⟨some 39, .fieldAddr 45 (.tmp 5) 1, 0, "law.go:67", #[], none⟩) (v := ?_) rfl (by kernel_rfl) (by kernel_rfl) (by kernel_rfl) (fun _ _ _ h => h) (Or.inl ⟨by rfl, ?_⟩) (by assumption) ?_
  rotate_left
  · (intro w_ hS_; (try dsimp only at hS_); obtain ⟨⟨s1, s1'⟩, -⟩ := hS_; go_simp; try with_reducible rfl)
  try simp only [Act.put, List.setIfInBounds_toArray, List.set_cons_zero, List.set_cons_succ]
  refine wpAnyH_take (i := 8) (oi := ⟨some 40, .load 3 (.tmp 39), 3, "law.go:67", #[⟨7, .data⟩], none⟩) (v := ?_) rfl (by kernel_rfl) (by kernel_rfl) (by kernel_rfl) (fun _ _ _ h => h) (Or.inl ⟨by rfl, ?_⟩) (by assumption) ?_
  rotate_left
  · (intro w_ hS_; (try dsimp only at hS_); obtain ⟨⟨s1, s1'⟩, -⟩ := hS_; go_simp; try with_reducible rfl)
  try simp only [Act.put, List.setIfInBounds_toArray, List.set_cons_zero, List.set_cons_succ]
  refine wpAnyH_take (i := 9) (oi := ⟨some 41, .fieldAddr 45 (.tmp 5) 4, 0, "law.go:67", #[], none⟩) (v := ?_) rfl (by kernel_rfl) (by kernel_rfl) (by kernel_rfl) (fun _ _ _ h => h) (Or.inl ⟨by rfl, ?_⟩) (by assumption) ?_
  rotate_left
  · (intro w_ hS_; (try dsimp only at hS_); obtain ⟨⟨s1, s1'⟩, -⟩ := hS_; go_simp; try with_reducible rfl)
  try simp only [Act.put, List.setIfInBounds_toArray, List.set_cons_zero, List.set_cons_succ]
  refine wpAnyH_take (i := 10) (oi := ⟨some 42, .load 43 (.tmp 41), 43, "law.go:67", #[⟨9, .data⟩], none⟩) (v := ?_) rfl (by kernel_rfl) (by kernel_rfl) (by kernel_rfl) (fun _ _ _ h => h) (Or.inl ⟨by rfl, ?_⟩) (by assumption) ?_
  rotate_left
  · (intro w_ hS_; (try dsimp only at hS_); obtain ⟨⟨s1, s1'⟩, -⟩ := hS_; go_simp; try with_reducible rfl)
  try simp only [Act.put, List.setIfInBounds_toArray, List.set_cons_zero, List.set_cons_succ]
  refine wpAnyH_ready (rs := [5]) (by kernel_rfl) (by simp) ?_
  refine AllReadyH.cons (o := ⟨some 37, .call ⟨.value (.func 17), #[.tmp 32, .tmp 34, .tmp 36], #[23, 3, 43]⟩, 24, "law.go:67", #[⟨0, .data⟩, ⟨2, .data⟩, ⟨4, .data⟩], none⟩) rfl (fun K hK => ?_) AllReadyH.nil
  go_simp
  (have hq_ := hHeld; (try dsimp only at hq_))
  obtain ⟨hs1, hf1⟩ := hq_
  refine (Do_c b first x.f1 x.f10 d _ hB0 h0 hi).mono ?_
  rintro e u1 ⟨rfl, hB1, hA1⟩
  have hR1 := hR0.aside hA1 (fun e => hAp.eg e.symm) (fun hp => ⟨fun e => (hAp.pos hp).2.2.1 e.symm, fun e => (hAp.pos hp).2.2.2 e.symm⟩)
  refine hK.out _ _ ⟨hA1.row hs1 (by omega), hf1.trans (aside_more hA1 (fun k hk => .inl hk))⟩ (fun hHeld => ?_)
  clear hK K
  try simp only [Act.put, List.setIfInBounds_toArray, List.set_cons_zero, List.set_cons_succ]
  refine wpAnyH_ready (rs := [11]) (by kernel_rfl) (by simp) ?_
  refine AllReadyH.cons (o := ⟨some 43, .call ⟨.value (.func 47), #[.tmp 38, .tmp 40, .tmp 42], #[27, 3, 43]⟩, 24, "law.go:67", #[⟨6, .data⟩, ⟨8, .data⟩, ⟨10, .data⟩, ⟨5, .chain⟩], none⟩) rfl (fun K hK => ?_) AllReadyH.nil
  go_simp
  (have hq_ := hHeld; (try dsimp only at hq_))
  obtain ⟨hs2, hf2⟩ := hq_
  refine (rDo_c r first x.f1 x.f10 d _ hR1 h0 h1).mono ?_
  rintro e u2 ⟨rfl, hR2, hA2⟩
  have hl_ : 0 < d.length → r.l < w.heap.size ∧ r.x < w.heap.size := fun hp => ⟨(hR.pos hp).2.2.1.lt, (hR.pos hp).2.2.2.1.lt⟩
  have hB2 := hB1.aside hA2 (fun h => by have := hAp.pos h.1; rcases h.2 with e | e; exact this.1 e; exact this.2.1 e) (fun h => by have := hAp.pos h.1; rcases h.2 with e | e; exact this.2.2.1 e; exact this.2.2.2 e)
  refine hK.out _ _ ⟨hA2.row hs2 (fun h => by have := hl_ h.1; have := h.2; omega), hf2.trans (aside_more hA2 (fun k hk => .inr hk))⟩ (fun hHeld => ?_)
  clear hK K
  try simp only [Act.put, List.setIfInBounds_toArray, List.set_cons_zero, List.set_cons_succ]
  refine wpAnyH_take (i := 12) (oi := ⟨some 44, .binOp .eql 24 (.tmp 37) (.tmp 43) 24, 4, "law.go:67", #[⟨5, .data⟩, ⟨11, .data⟩], none⟩) (v := ?_) rfl (by kernel_rfl) (by kernel_rfl) (by kernel_rfl) (fun _ _ _ h => h) (Or.inl ⟨by rfl, ?_⟩) (by assumption) ?_
  rotate_left
  · (intro w_ hS_; (try dsimp only at hS_); obtain ⟨⟨s1, s1'⟩, -⟩ := hS_; go_simp; try with_reducible rfl)
  try simp only [Act.put, List.setIfInBounds_toArray, List.set_cons_zero, List.set_cons_succ]
  refine wpAnyH_take (i := 13) (oi := ⟨some 6, .assign (.tmp 44), 4, "law.go:67", #[⟨12, .data⟩, ⟨11, .chain⟩, ⟨0, .phase⟩, ⟨1, .phase⟩, ⟨2, .phase⟩, ⟨3, .phase⟩, ⟨4, .phase⟩, ⟨5, .phase⟩, ⟨6, .phase⟩, ⟨7, .phase⟩, ⟨8, .phase⟩, ⟨9, .phase⟩, ⟨10, .phase⟩, ⟨11, .phase⟩, ⟨12, .phase⟩], none⟩) (v := ?_) rfl (by kernel_rfl) (by kernel_rfl) (by kernel_rfl) (fun _ _ _ h => h) (Or.inl ⟨by rfl, ?_⟩) (by assumption) ?_
  rotate_left
  · (intro w_ hS_; (try dsimp only at hS_); obtain ⟨⟨s1, s1'⟩, -⟩ := hS_; go_simp; try with_reducible rfl)
  try simp only [Act.put, List.setIfInBounds_toArray, List.set_cons_zero, List.set_cons_succ]
  refine wpAnyH_done (by kernel_rfl) ?_ _
  (try dsimp only at hHeld)
  obtain ⟨-, hfin⟩ := hHeld
  have HF := Lib.hid hfin
  have HB2 := Lib.hid hB2
  have HR2 := Lib.hid hR2
  clear hB0 hR0 hB hR hB1 hR1 hB2 hR2 hA1 hA2 hs1 hs2 hf1 hf2 hfin
  go_wp2
  go_ret
  exact ⟨by simp, HB2.out, HR2.out, HF.out⟩
set_option maxHeartbeats 2000000 in
theorem does0 (hx1 : ¬ x.f0 = 1) (hx2 : ¬ x.f0 = 2) (hx3 : ¬ x.f0 = 3) : Calls Try.prog 30 #[.pointer (some ⟨b.g, 0, none⟩), .pointer (some ⟨r.g, 0, none⟩), .agg (vS x)] w fun e w' => e = .returned (.bool true) ∧ BAt b first (d) w' ∧ RAt r first (d) w' ∧ AsideP (Ch b r d.length) w w' := by
  have hAl : Below w.heap.size w (w.alloc (.cells (vS x) 45)) := (Below.refl _ w).alloc (Nat.le_refl _) _
  have HB2 := Lib.hid (hB.below hAl)
  have HR2 := Lib.hid (hR.below hAl)
  have hAl' : AsideP (Ch b r d.length) w (w.alloc (.cells (vS x) 45)) := .of_below hAl
  have HF := Lib.hid hAl'
  have q1 : (x.f0 == 1) = false := by simpa using hx1
  have q2 : (x.f0 == 2) = false := by simpa using hx2
  have q3 : (x.f0 == 3) = false := by simpa using hx3
  clear hx1 hx2 hx3 hB hR hAl hAl'
  go_enter Try.func30, Try.ntmps30
  go_wp2
  go_ret
  exact ⟨rfl, HB2.out, HR2.out, HF.out⟩
set_option maxHeartbeats 2000000 in
theorem does3 (hx : x.f0 = 3) : Calls Try.prog 30 #[.pointer (some ⟨b.g, 0, none⟩), .pointer (some ⟨r.g, 0, none⟩), .agg (vS x)] w fun e w' => e = .returned (.bool true) ∧ BAt b first (d.map zeroE) w' ∧ RAt r first (d.map zeroE) w' ∧ AsideP (Ch b r d.length) w w' := by
  have lb := hB.gl
  have le := hB.el
  have hAl : Below w.heap.size w (w.alloc (.cells (vS x) 45)) := (Below.refl _ w).alloc (Nat.le_refl _) _
  have hB0 := (hB.below hAl).drew
  have hR0 := (hR.below hAl).drew
  have q1 : (x.f0 == 1) = false := by simp [hx]
  have q2 : (x.f0 == 2) = false := by simp [hx]
  have q3 : (x.f0 == 3) = true := by simp [hx]
  clear hx hB0 hR0
  have hB0 := hB.below hAl
  have hR0 := hR.below hAl
  have lr := hR.gl
  go_enter Try.func30, Try.ntmps30
  go_wp2_with fail
  refine (Reset_b b first d _ hB0 (by omega)).mono ?_
  rintro e u1 ⟨rfl, hB1, hA1⟩
  have hR1 := hR0.aside hA1 (fun e => hAp.eg e.symm) (fun hp => ⟨fun e => (hAp.pos hp).2.2.1 e.symm, fun e => (hAp.pos hp).2.2.2 e.symm⟩)
  have hf1 : AsideP (Ch b r d.length) w u1 := (AsideP.of_below hAl).trans (aside_more hA1 (fun k hk => .inl hk))
  have hl_ : 0 < d.length → r.l < w.heap.size ∧ r.x < w.heap.size := fun hp => ⟨(hR.pos hp).2.2.1.lt, (hR.pos hp).2.2.2.1.lt⟩
  obtain ⟨G1, G1'⟩ := hR1.row
  clear hB0 hR0 hB hR hA1
  go_wp2
  go_loopw [7] (fun q wr => ∃ k : Nat, k ≤ d.length ∧ q = .int .i64 k ∧ RAt r first (zeroed d k) wr ∧ BAt b first (d.map zeroE) wr ∧ AsideP (Ch b r d.length) w wr) (fun q _ => d.length - (intOf q).toNat)
  case atStart => exact ⟨0, by omega, rfl, by rw [zeroed_0]; exact hR1, hB1, hf1⟩
  case round =>
    obtain ⟨k, hk, rfl, hRk, hBk, hX⟩ := hrel
    clear hR1 hB1 hf1 G1 G1'
    by_cases hlt : k < d.length
    · have hp : 0 < d.length := by omega
      have k1 : (k : Int) < d.length := by omega
      have k0 : (0 : Int) ≤ k := by omega
      have k2 : decide ((k : Int) < d.length) = true := decide_eq_true k1
      have w3 : IntKind.i64.wrap ((k : Int) + 1) = (k : Int) + 1 := IntWalk.i64_in _ (by omega)
      have hget : d[k]? = some d[k] := List.getElem?_eq_getElem (by omega)
      obtain ⟨e1, e2, r1, r2, n1, n2, n3⟩ := hRk.pos (by rw [zeroed_len]; omega)
      obtain ⟨G1, G1'⟩ := hRk.row
      rw [e1, e2, zeroed_len] at G1'
      obtain ⟨L1, L1'⟩ := r1
      have hs : k * 7 + 7 ≤ (FT eEL (zeroed d k) r.T).size := by rw [FT_size eEL_len, zeroed_len]; omega
      have hspl : spl (FT eEL (zeroed d k) r.T) (k * 7) #[.bool false, .bool false, .bool false, .bool false, .bool false, .int .i64 0, .int .i64 0] = FT eEL (zeroed d (k + 1)) r.T := (FT_spl (cs := #[.bool false, .bool false, .bool false, .bool false, .bool false, .int .i64 0, .int .i64 0]) (y := zeroE d[k]) eEL_len (zeroed_at hget) (show (7 : Nat) ≤ 7 by decide) rfl).trans (by rw [zeroed_set hget])
      have hch : Ch b r d.length r.l := .inr ⟨hp, .inl rfl⟩
      have HC := Lib.hid hch
      have HR1 := Lib.hid hRk
      have HB1 := Lib.hid hBk
      have HX := Lib.hid hX
      have n1' : ¬ r.l = r.g := fun e => n1 e.symm
      clear hget hch hRk hBk hX r2
      go_wp2
      go_roundw
      case rel =>
        have hA : AsideP (fun j => j = r.l) wr (wr.setRow r.l (FT eEL (zeroed d (k + 1)) r.T)) := Eq.mpr (asideP_setRow_e (P := fun j => j = r.l) (.inl rfl)) (.of_below (Below.refl _ _))
        obtain ⟨f1, f2, f3, f4, f5, f6, f7⟩ := HR1.out.pos (by rw [zeroed_len]; omega)
        refine ⟨k + 1, by omega, congrArg (Value.int .i64) (by omega), ⟨?_, fun _ => ⟨f1, f2, ⟨by go_simp, by go_simp⟩, ?_, f5, f6, f7⟩⟩, HB1.out.aside hA (hAp.pos hp).1 (hAp.pos hp).2.2.1, HX.out.trans (aside_more hA (fun j hj => by rw [hj]; exact HC.out))⟩
        · have := hA.row HR1.out.row f5
          rwa [zeroed_len] at this ⊢
        · have := hA.row f4 (fun e => f7 e.symm)
          rwa [fx_eq (a := zeroed d (k + 1)) (b := zeroed d k) (by rw [zeroed_f7, zeroed_f7])]
      case measure => simp [intOf]; omega
    · obtain rfl : k = d.length := by omega
      have k2 : decide ((d.length : Int) < d.length) = false := decide_eq_false (by omega)
      rw [zeroed_all] at hRk
      have hrow := hRk.row
      rw [List.length_map] at hrow
      obtain ⟨G1, G1'⟩ := hrow
      have HR1 := Lib.hid hRk
      have HB1 := Lib.hid hBk
      have HX := Lib.hid hX
      clear hRk hBk hX
      go_wp2
      go_ret
      exact ⟨rfl, HB1.out, HR1.out, HX.out⟩
include hi in
theorem does_c : Calls Try.prog 30 #[.pointer (some ⟨b.g, 0, none⟩), .pointer (some ⟨r.g, 0, none⟩), .agg (vS x)] w fun e w' => e = .returned (.bool true) ∧ BAt b first (actL first d x) w' ∧ RAt r first (actL first d x) w' ∧ AsideP (Ch b r d.length) w w' := by
  unfold actL
  by_cases x1 : x.f0 = 1
  · rw [if_pos x1]; exact does1 b r first d x w hB hR hAp h0 h1 hi x1
  by_cases x2 : x.f0 = 2
  · rw [if_neg x1, if_pos x2]; exact does2 b r first d x w hB hR hAp h0 h1 hi x2
  by_cases x3 : x.f0 = 3
  · rw [if_neg x1, if_neg x2, if_pos x3]; exact does3 b r first d x w hB hR hAp h0 h1 x3
  · rw [if_neg x1, if_neg x2, if_neg x3]; exact does0 b r first d x w hB hR hAp h0 h1 x1 x2 x3
end
end Go.Proofs.Ytbglgblngfbhbaa.Bk

namespace Go.Proofs.Ytbglgblngfbhbaa.Bk
open Go.RowKit Go.Shelf Go.Proofs.Ytbglgblngfbhbaa.IAll Go.Proofs.YtbglgblngfbhbaaW.PrintWords Go.Proofs.YtbglgblngfbhbaaW.PrintLast Go.Proofs.YtbglgblngfbhbaaW.PrintMore
set_option linter.unusedVariables false
set_option linter.unusedSectionVars false
set_option linter.unusedSimpArgs false
attribute [local go_sem] Oper.semAt_some cell_row frozen_row isRow_setCell_eq rowAt_setCell_same rowAt_setCell_other isRow_alloc_eq rowAt_alloc rowAt_new rowAt_new' isRow_setRow_eq rowAt_setRow_same rowAt_setRow_other isRow_drew rowAt_drew size_setRow_ size_drew_ blk_ptr aggOf_agg offv_ptr below_alloc_e below_setCell_e below_setRow_e below_refl_e below_drew_r isRow_drewN rowAt_drewN below_drewN_e le_add_r asideP_alloc_e asideP_setCell_e asideP_setRow_e asideP_drew_e asideP_drewN_e asideP_refl_e allOne_nil allOne_cons Value.oneCell' addr_at mid_FT vE_size vL_size vQ_size vC_size vS_size vP_size vE_one vL_one vQ_one vC_one vS_one vP_one mid_spl spl_size spl_spl
attribute [local go_sem ↓] loadE storeE loadEm storeEm loadEg storeEg loadEmg storeEmg loadL storeL loadLm storeLm loadQ storeQ loadQm storeQm loadC storeC loadCg storeCg loadS storeS loadSm loadP storeP loadPm loadPg storePg 
set_option maxRecDepth 100000

theorem info9 : (Try.prog.info? 9).map (fun i => (i.zero, i.size, i.bytes)) = some (some (.string ⟨#[]⟩), 1, 16) := by kernel_rfl
theorem own_apart {W : World} {n₁ n₂ e₁ e₂ s₁ s₂ m₁ m₂ : Nat} {v₁ v₂ : Value} {xs₁ xs₂ : List Value} (h1 : W.ownsRow n₁ e₁ s₁ v₁ m₁ xs₁) (h2 : W.ownsRow n₂ e₂ s₂ v₂ m₂ xs₂) (he : e₁ ≠ e₂) : v₂.ownBlock = none ∨ v₂.ownBlock ≠ v₁.ownBlock := by
  rcases h2.2 with ⟨rfl, -⟩ | ⟨g, cap, cur, rfl, hg, hh, -⟩
  · exact .inl rfl
  · refine .inr (fun er => ?_)
    rcases h1.2 with ⟨rfl, -⟩ | ⟨g', cap', cur', rfl, hg', hh', -⟩
    · cases er
    · have e1 : g = g' := by simpa [Value.ownBlock] using er
      subst e1
      rw [hh] at hh'
      injection hh' with h3
      injection h3 with _ h4 _
      exact he h4.symm
theorem box_apart {W : World} {n e s m t B : Nat} {v : Value} {xs : List Value} {cs : Array Value} (h : W.ownsRow n e s v m xs) (hB : BoxN W B t cs) (he : e ≠ t) : some B ≠ v.ownBlock := by
  rcases h.2 with ⟨rfl, -⟩ | ⟨g, cap, cur, rfl, hg, hh, -⟩
  · simp [Value.ownBlock]
  · intro er
    have e1 : B = g := by simpa [Value.ownBlock] using er
    subst e1
    rw [show W.heap[B]? = _ from hB] at hh
    injection hh with h3
    injection h3 with _ h4 _
    exact he h4.symm
theorem rNew_bad (first m : Int) (x : ByteArray) (w : World) (h1 : Wid first) (h2 : Wid m) (h : ¬ (0 ≤ first ∧ 0 ≤ m ∧ first + m ≤ 16384)) : Calls Try.prog 11 #[.int .i64 first, .int .i64 m, .string x] w fun e w' => e = .returned (.tuple #[.pointer none, .bool false]) ∧ Below w.heap.size w w' := by
  unfold Wid at h1 h2
  have hB := Below.refl w.heap.size w
  go_enter Try.func11, Try.ntmps11
  by_cases t0 : first < 0
  · have u0 := decide_eq_true t0
    clear t0 h h1 h2
    go_wp2
    go_ret2
    exact ⟨rfl, by go_simp⟩
  by_cases t1 : m < 0
  · have u0 := decide_eq_false t0
    have u1 := decide_eq_true t1
    clear t0 t1 h h1 h2
    go_wp2
    go_ret2
    exact ⟨rfl, by go_simp⟩
  by_cases t2 : 16384 < first
  · have u0 := decide_eq_false t0
    have u1 := decide_eq_false t1
    have u2 := decide_eq_true t2
    clear t0 t1 t2 h h1 h2
    go_wp2
    go_ret2
    exact ⟨rfl, by go_simp⟩
  by_cases t3 : 16384 < m
  · have u0 := decide_eq_false t0
    have u1 := decide_eq_false t1
    have u2 := decide_eq_false t2
    have u3 := decide_eq_true t3
    clear t0 t1 t2 t3 h h1 h2
    go_wp2
    go_ret2
    exact ⟨rfl, by go_simp⟩
  have t4 : 16384 < wrap64 (first + m) := by rw [IntWalk.wrap64_in _ (by omega)]; omega
  have u0 := decide_eq_false t0
  have u1 := decide_eq_false t1
  have u2 := decide_eq_false t2
  have u3 := decide_eq_false t3
  have u4 := decide_eq_true t4
  clear t0 t1 t2 t3 t4 h h1 h2
  go_wp2
  go_ret2
  exact ⟨rfl, by go_simp⟩
theorem repl_snoc {α : Type} (k : Nat) (a : α) : List.replicate (k + 1) a = List.replicate k a ++ [a] := List.replicate_succ'
theorem grown_set (W : World) (b i : Nat) (v : Value) : W.grownBy (W.setCell ⟨b, i, none⟩ v) (some b) :=
  ⟨rfl, rfl, rfl, by simp, fun k _ hk => Below.heap_setCell W ⟨b, i, none⟩ v k (fun e => hk (by rw [e]))⟩
theorem fl_ex (k : Nat) (x : ByteArray) : fl eEX (List.replicate k (newE x)) = List.replicate k (.string x) := by
  induction k with
  | zero => rfl
  | succ k ih => rw [List.replicate_succ, fl_cons, ih, List.replicate_succ]; rfl
theorem cells_newL (w : World) (x : L) (t : TypeId) : ∀ j u, (eL x)[j]? = some u → (w.alloc (.cells (vL x) t)).cell? ((⟨w.heap.size, 0, none⟩ : Addr).add j) = some u := by
  intro j u hj
  rw [addr_at, cell_row isRow_new, rowAt_new, ← vL_eq]
  simpa using hj
set_option maxHeartbeats 4000000 in
theorem rNew_c (first : Int) (n : Nat) (x : ByteArray) (w : World) (h0 : 0 ≤ first) (h1 : first + n ≤ 16384) : Calls Try.prog 11 #[.int .i64 first, .int .i64 (n : Int), .string x] w fun e w' => ∃ r : RSh, e = .returned (.tuple #[.pointer (some ⟨r.g, 0, none⟩), .bool true]) ∧ w.heap.size ≤ r.g ∧ (0 < n → w.heap.size ≤ r.l ∧ w.heap.size ≤ r.x) ∧ RAt r first (List.replicate n (newE x)) w' ∧ Below w.heap.size w w' := by
  have hB := Below.refl w.heap.size w
  obtain ⟨i1, hi1, hy0, hy1, hy2⟩ := info_parts infoZL
  obtain ⟨i0, hi, hz0, hz1, hz2⟩ := info_parts info9
  have u0 : decide (first < 0) = false := decide_eq_false (by omega)
  have u1 : decide ((n : Int) < 0) = false := decide_eq_false (by omega)
  have u2 : decide (16384 < first) = false := decide_eq_false (by omega)
  have u3 : decide (16384 < (n : Int)) = false := decide_eq_false (by omega)
  have u4 : decide (16384 < wrap64 (first + (n : Int))) = false := decide_eq_false (by rw [IntWalk.wrap64_in _ (by omega)]; omega)
  go_enter Try.func11, Try.ntmps11
  go_wp2
  go_loopw [9] (fun q wr => ∃ (k : Nat) (v1 v2 : Value), k ≤ n ∧ q = .int .i64 k ∧ BoxN wr w.heap.size 78 #[.int .i64 first, v1, v2] ∧ wr.ownsRow (w.heap.size + 1) 33 7 v1 k (fl eL (List.replicate k zL)) ∧ wr.ownsRow (w.heap.size + 1) 9 1 v2 k (List.replicate k (.string x)) ∧ Below w.heap.size w wr) (fun q _ => n - (intOf q).toNat)
  case atStart => exact ⟨0, _, _, by omega, rfl, BoxN.new w 78 _, World.ownsRow_nil _ _ _ _, World.ownsRow_nil _ _ _ _, (Below.refl _ w).alloc (Nat.le_refl _) _⟩
  case round =>
    obtain ⟨k, v1, v2, hk, rfl, hb, ho1, ho2, hX⟩ := hrel
    have lz := hb.lt
    have c1 := hb.cell (i := 1) rfl
    have c2 := hb.cell (i := 2) rfl
    by_cases hlt : k < n
    · have k1 : (k : Int) < n := by omega
      have k2 : decide ((k : Int) < n) = true := decide_eq_true k1
      have w3 : IntKind.i64.wrap ((k : Int) + 1) = (k : Int) + 1 := IntWalk.i64_in _ (by omega)
      have HB := Lib.hid hb
      have HO1 := Lib.hid ho1
      have HO2 := Lib.hid ho2
      clear ho1 ho2 hb
      go_wp2_with (at_builtin; refine wpList_append_own _ rfl _ _ 75 rfl (w.heap.size + 1) 33 i1 (.agg (vL zL)) 7 24 Try.underlying75 hi1 hy0 hy1 hy2 rfl (by decide) _ _ _ rfl (HO1.out.alloc _) ⟨wr.heap.size, 0, none⟩ 1 1 (eL zL) rfl rfl (cells_newL _ _ _) (by simp [eL, Value.oneCell']) (by unfold maxLen; omega) (by omega) (by simp; omega) ?_; intro v' w1 hown' hgrow _; obtain ⟨g', cap', rfl⟩ := ownsRow_succ hown'; refine stop_in ?_)
      refine stop_out ?_
      have hb1 : BoxN w1 w.heap.size 78 #[.int .i64 first, v1, v2] := (HB.out.alloc _).kept hgrow (box_apart HO1.out HB.out (by decide))
      have hq2 : w1.ownsRow (w.heap.size + 1) 9 1 v2 k (List.replicate k (.string x)) := (HO2.out.alloc _).kept hgrow (own_apart HO1.out HO2.out (by decide))
      have hX1 : Below w.heap.size w w1 := Below.grown (hX.alloc (Nat.le_of_lt lz) _) hgrow (by simp; omega) (fun j ej => by have := own_base HO1.out j ej; omega)
      have hb2 : BoxN (w1.setCell ⟨w.heap.size, 1, none⟩ (.slice (some ⟨g', 0, none⟩) (k + 1) cap')) w.heap.size 78 #[.int .i64 first, .slice (some ⟨g', 0, none⟩) (k + 1) cap', v2] := hb1.set 1 _
      have hown2 : (w1.setCell ⟨w.heap.size, 1, none⟩ (.slice (some ⟨g', 0, none⟩) (k + 1) cap')).ownsRow (w.heap.size + 1) 33 7 (.slice (some ⟨g', 0, none⟩) (k + 1) cap') (k + 1) (fl eL (List.replicate k zL) ++ eL zL) := hown'.kept (grown_set w1 w.heap.size 1 _) (.inr (box_apart hown' hb1 (by decide)).symm)
      have hq3 : (w1.setCell ⟨w.heap.size, 1, none⟩ (.slice (some ⟨g', 0, none⟩) (k + 1) cap')).ownsRow (w.heap.size + 1) 9 1 v2 k (List.replicate k (.string x)) := hq2.kept (grown_set w1 w.heap.size 1 _) (.inr (box_apart hq2 hb1 (by decide)).symm)
      have hX2 : Below w.heap.size w (w1.setCell ⟨w.heap.size, 1, none⟩ (.slice (some ⟨g', 0, none⟩) (k + 1) cap')) := hX1.setCell (Nat.le_refl _) _
      have hfz := hb1.frozen 1
      have hc1 := hb1.cell (i := 1) rfl
      have hc2 := hb1.cell (i := 2) rfl
      clear c1 c2 hgrow hown' hq2
      have lz1 := hb1.lt
      have HB2 := Lib.hid hb2
      have HW2 := Lib.hid hown2
      have HQ3 := Lib.hid hq3
      have HX2 := Lib.hid hX2
      clear hb1 hb2 hown2 hq3 hX2 HB HO1 HO2 hX hX1
      go_wp2_with (at_builtin; refine wpList_append_own _ rfl _ _ 76 rfl (w.heap.size + 1) 9 i0 (.string ⟨#[]⟩) 1 16 Try.underlying76 hi hz0 hz1 hz2 rfl (by decide) _ _ _ rfl (HQ3.out.alloc _) ⟨_, 0, none⟩ 1 1 [.string x] rfl rfl (cell_new1' _ _ _ _ (by simp)) (by simp [Value.oneCell']) (by unfold maxLen; omega) (by omega) (by simp; omega) ?_; intro v' w2 hown' hgrow _; obtain ⟨g2, cap2, rfl⟩ := ownsRow_succ hown'; refine stop_in ?_)
      refine stop_out ?_
      have hb3 : BoxN w2 w.heap.size 78 #[.int .i64 first, .slice (some ⟨g', 0, none⟩) (k + 1) cap', v2] := (HB2.out.alloc _).kept hgrow (box_apart HQ3.out HB2.out (by decide))
      have hw3 := (HW2.out.alloc (.cells #[.string x] 9)).kept hgrow (own_apart HQ3.out HW2.out (by decide))
      have hX3 : Below w.heap.size w w2 := Below.grown (HX2.out.alloc (by simp; omega) _) hgrow (by simp; omega) (fun j ej => by have := own_base HQ3.out j ej; omega)
      have hfz3 := hb3.frozen 2
      have hc3 := hb3.cell (i := 2) rfl
      have HB3 := Lib.hid hb3
      clear hgrow hc1 hc2 hfz
      go_wp2
      go_roundw
      case rel =>
        refine ⟨k + 1, _, _, by omega, congrArg (Value.int .i64) (by omega), HB3.out.set 2 _, ?_, ?_, hX3.setCell (Nat.le_refl _) _⟩
        · have := hw3.kept (grown_set w2 w.heap.size 2 (.slice (some ⟨g2, 0, none⟩) (k + 1) cap2)) (.inr (box_apart hw3 HB3.out (by decide)).symm)
          rw [repl_snoc, fl_append]
          simpa [fl] using this
        · have := hown'.kept (grown_set w2 w.heap.size 2 (.slice (some ⟨g2, 0, none⟩) (k + 1) cap2)) (.inr (box_apart hown' HB3.out (by decide)).symm)
          rw [repl_snoc]
          exact this
      case measure => simp [intOf]; omega
    · obtain rfl : k = n := by omega
      have k2 : decide ((k : Int) < k) = false := decide_eq_false (by omega)
      have HB := Lib.hid hb
      clear c1 c2 hb
      go_wp2
      go_ret2
      rcases Nat.eq_zero_or_pos k with hz | hz
      · subst hz
        obtain ⟨p1, q1, rfl⟩ : ∃ p c, v1 = .slice p 0 c := by
          rcases ho1.2 with ⟨rfl, -⟩ | ⟨g, cap, cur, rfl, -⟩
          · exact ⟨none, 0, rfl⟩
          · exact ⟨_, _, rfl⟩
        obtain ⟨p2, q2, rfl⟩ : ∃ p c, v2 = .slice p 0 c := by
          rcases ho2.2 with ⟨rfl, -⟩ | ⟨g, cap, cur, rfl, -⟩
          · exact ⟨none, 0, rfl⟩
          · exact ⟨_, _, rfl⟩
        exact ⟨⟨w.heap.size, p1, p2, q1, q2, 0, 0, [], []⟩, rfl, Nat.le_refl _, fun h => absurd h (Nat.lt_irrefl _), ⟨Row.of HB.out, fun h => absurd h (Nat.lt_irrefl _)⟩, hX⟩
      · obtain ⟨ob1, q1, T1, rfl, h1, r1⟩ := own_ft (enc := eL) eL_len ho1 (by simp) hz
        have ho2' : wr.ownsRow (w.heap.size + 1) 9 1 v2 k (fl eEX (List.replicate k (newE x))) := by
          rw [fl_ex]; exact ho2
        obtain ⟨ob2, q2, T2, rfl, h2, r2⟩ := own_ft (enc := eEX) eEX_len ho2' (by simp) hz
        have e1 : FT eL (List.replicate k zL) T1 = FT eEL (List.replicate k (newE x)) T1 := by
          have := FT_map (g := E.l) (enc := eEL) (encb := eL) (xs := List.replicate k (newE x)) (T := T1) (fun _ => rfl)
          rw [List.map_replicate] at this
          exact this
        rw [e1] at r1
        have hne : ¬ ob1 = ob2 := by
          rcases own_apart ho1 ho2 (by decide) with h | h
          · simp [Value.ownBlock] at h
          · intro e; exact h (by simp [Value.ownBlock, e])
        have hsz : (List.replicate k (newE x)).length = k := by simp
        exact ⟨⟨w.heap.size, some ⟨ob1, 0, none⟩, some ⟨ob2, 0, none⟩, q1, q2, ob1, ob2, T1, T2⟩, rfl, Nat.le_refl _, fun _ => ⟨by show _ ≤ ob1; omega, by show _ ≤ ob2; omega⟩, ⟨by rw [hsz]; exact Row.of HB.out, fun _ => ⟨rfl, rfl, r1, r2, by show ¬ w.heap.size = ob1; omega, by show ¬ w.heap.size = ob2; omega, hne⟩⟩, hX⟩
end Go.Proofs.Ytbglgblngfbhbaa.Bk

namespace Go.Proofs.Ytbglgblngfbhbaa.Bk
open Go.RowKit Go.Shelf Go.Proofs.Ytbglgblngfbhbaa.IAll Go.Proofs.YtbglgblngfbhbaaW.PrintWords Go.Proofs.YtbglgblngfbhbaaW.PrintLast Go.Proofs.YtbglgblngfbhbaaW.PrintMore
set_option linter.unusedVariables false
set_option linter.unusedSectionVars false
set_option linter.unusedSimpArgs false
attribute [local go_sem] Oper.semAt_some cell_row frozen_row isRow_setCell_eq rowAt_setCell_same rowAt_setCell_other isRow_alloc_eq rowAt_alloc rowAt_new rowAt_new' isRow_setRow_eq rowAt_setRow_same rowAt_setRow_other isRow_drew rowAt_drew size_setRow_ size_drew_ blk_ptr aggOf_agg offv_ptr below_alloc_e below_setCell_e below_setRow_e below_refl_e below_drew_r isRow_drewN rowAt_drewN below_drewN_e le_add_r asideP_alloc_e asideP_setCell_e asideP_setRow_e asideP_drew_e asideP_drewN_e asideP_refl_e allOne_nil allOne_cons Value.oneCell' addr_at mid_FT vE_size vL_size vQ_size vC_size vS_size vP_size vE_one vL_one vQ_one vC_one vS_one vP_one mid_spl spl_size spl_spl
attribute [local go_sem ↓] loadE storeE loadEm storeEm loadEg storeEg loadEmg storeEmg loadL storeL loadLm storeLm loadQ storeQ loadQm storeQm loadC storeC loadCg storeCg loadS storeS loadSm loadP storeP loadPm loadPg storePg 
set_option maxRecDepth 100000
theorem eqQ (d : Nat) (w : World) (x : Q) : (Op.equalIn (d + 2) 31 (.agg (vQ x)) (.agg (vQ x))).run Try.prog w = .ok true w := by
  unfold vQ
  refine (eqA_of Try.underlying31 (by kernel_rfl) (r := true) ?_)
  refine eqf_end rfl (by go_simp; rfl) (by go_simp; rfl) (by go_simp) ?_
  refine eqf_end rfl (by go_simp; rfl) (by go_simp; rfl) (by go_simp) ?_
  refine eqf_end rfl (by go_simp; rfl) (by go_simp; rfl) (by go_simp) ?_
  refine eqf_last rfl (by go_simp; rfl) (by go_simp; rfl) (by go_simp)
theorem eqC (d : Nat) (w : World) (x : C) : (Op.equalIn (d + 2) 63 (.agg (vC x)) (.agg (vC x))).run Try.prog w = .ok true w := by
  unfold vC
  refine (eqA_of Try.underlying63 (by kernel_rfl) (r := true) ?_)
  refine eqf_end rfl (by go_simp; rfl) (by go_simp; rfl) (by go_simp) ?_
  refine eqf_end rfl (by go_simp; rfl) (by go_simp; rfl) (by go_simp) ?_
  refine eqf_end rfl (by go_simp; rfl) (by go_simp; rfl) (by go_simp) ?_
  refine eqf_last rfl (by go_simp; rfl) (by go_simp; rfl) (by go_simp)
theorem eqL (d : Nat) (w : World) (x : L) : (Op.equalIn (d + 4) 33 (.agg (vL x)) (.agg (vL x))).run Try.prog w = .ok true w := by
  unfold vL
  refine (eqA_of Try.underlying33 (by kernel_rfl) (r := true) ?_)
  refine eqf_end rfl (by go_simp; rfl) (by go_simp; rfl) (show (Op.equalIn _ 31 (.agg (vQ ⟨x.f0, x.f1, x.f2, x.f3⟩)) (.agg (vQ ⟨x.f0, x.f1, x.f2, x.f3⟩))).run Try.prog w = .ok true w from eqQ (d + 1) w _) ?_
  refine eqf_end rfl (by go_simp; rfl) (by go_simp; rfl) (by go_simp) ?_
  refine eqf_end rfl (by go_simp; rfl) (by go_simp; rfl) (by go_simp) ?_
  refine eqf_last rfl (by go_simp; rfl) (by go_simp; rfl) (by go_simp)
theorem eqE (d : Nat) (w : World) (x : E) : (Op.equalIn (d + 6) 35 (.agg (vE x)) (.agg (vE x))).run Try.prog w = .ok true w := by
  unfold vE
  refine (eqA_of Try.underlying35 (by kernel_rfl) (r := true) ?_)
  refine eqf_end rfl (by go_simp; rfl) (by go_simp; rfl) (show (Op.equalIn _ 33 (.agg (vL x.l)) (.agg (vL x.l))).run Try.prog w = .ok true w from eqL (d + 1) w _) ?_
  refine eqf_last rfl (by go_simp; rfl) (by go_simp; rfl) (by go_simp)

def sx : ByteArray := ⟨#[120]⟩
def nOf (m : Int) : Nat := (m % 64).toNat
def d0 (m : Int) : List E := List.replicate (nOf m) (newE sx)
theorem d0_len (m : Int) : (d0 m).length = nOf m := by simp [d0]
theorem nOf_lt (m : Int) : nOf m < 64 := by unfold nOf; omega
set_option maxHeartbeats 1000000 in
theorem both_c (first m : Int) (w : World) (h0 : 0 ≤ first) (h1 : first ≤ 255) (h2 : 0 ≤ m) (h3 : m ≤ 255) :
    Calls Try.prog 28 #[.int .u8 first, .int .u8 m] w fun e w' => ∃ b r, e = .returned (.tuple #[.pointer (some ⟨b.g, 0, none⟩), .pointer (some ⟨r.g, 0, none⟩)]) ∧ BAt b first (d0 m) w' ∧ RAt r first (d0 m) w' ∧ Apart b r (nOf m) ∧
      (w.heap.size ≤ b.g ∧ w.heap.size ≤ b.e ∧ w.heap.size ≤ r.g ∧ (0 < nOf m → w.heap.size ≤ r.l ∧ w.heap.size ≤ r.x)) ∧ Below w.heap.size w w' := by
  have hn := nOf_lt m
  have e1 : m % 64 = (nOf m : Int) := by unfold nOf; omega
  have e2 : Int.tmod m 64 = (nOf m : Int) := by rw [Int.tmod_eq_emod_of_nonneg h2]; exact e1
  have HB := Lib.hid (fun W => New_c first (nOf m) sx W h0 (by omega))
  have HR := Lib.hid (fun W => rNew_c first (nOf m) sx W h0 (by omega))
  go_enter Try.func28, Try.ntmps28
  go_wp2_with fail
  refine (HB.out _).mono ?_
  rintro e v1 ⟨g', el', rfl, hg, he, hne, r1, r2, hb1⟩
  have hB1 : BAt ⟨g', el', nOf m, []⟩ first (d0 m) v1 := ⟨by rw [d0_len]; exact r1, r2, hne⟩
  have hs := hb1.size
  clear r1 r2
  go_wp2_with fail
  refine (HR.out _).mono ?_
  rintro e v2 ⟨r, rfl, hrg, hrl, hR2, hb2⟩
  have hB2 := hB1.below hb2
  have lb := hB1.gl
  have le := hB1.el
  have hbb : Below w.heap.size w v2 := hb1.trans (hb2.mono hs)
  have HF := Lib.hid (And.intro hB2 hR2)
  clear hB1 hB2 hR2 hb1 hb2
  go_wp2
  go_ret2
  exact ⟨⟨g', el', nOf m, []⟩, r, rfl, HF.out.1, HF.out.2, ⟨by show ¬ g' = r.g; have : g' < v1.heap.size := lb; omega, by show ¬ el' = r.g; have : el' < v1.heap.size := le; omega, fun hp => by
    have := hrl hp
    have l1 : g' < v1.heap.size := lb
    have l2 : el' < v1.heap.size := le
    refine ⟨?_, ?_, ?_, ?_⟩
    · show ¬ g' = r.l; omega
    · show ¬ g' = r.x; omega
    · show ¬ el' = r.l; omega
    · show ¬ el' = r.x; omega⟩, ⟨hg, he, by omega, fun hp => by have := hrl hp; omega⟩, hbb⟩
attribute [local go_sem high] eqC
theorem wid_small {x : Int} (h : -1000000 ≤ x) (h2 : x ≤ 1000000) : Wid x := by unfold Wid; omega
def e32 : E := ⟨false, false, true, false, true, 1, 165, ⟨#[]⟩⟩
theorem aw1 : putR 32 [newE sx, newE sx] 32 e32 = 0 := by decide +kernel
theorem aw2 : best (rdyL true true (allL 32 (putL 32 [newE sx, newE sx] 32 e32))) = ⟨32, 160, 1, true⟩ := by apply C.ext <;> decide +kernel
theorem aw3 : ∀ x ∈ putL 32 [newE sx, newE sx] 32 e32, x.f5 = 0 ∨ x.f5 = 1 := by decide +kernel
theorem aw4 : (putL 32 [newE sx, newE sx] 32 e32).length = 2 := by decide +kernel
set_option maxHeartbeats 2000000 in
theorem awake_c (w : World) : Calls Try.prog 9 #[] w fun e w' => e = .returned (.bool true) ∧ Below w.heap.size w w' := by
  have HB := Lib.hid (fun W => New_c 32 2 sx W (by omega) (by omega))
  go_enter Try.func9, Try.ntmps9
  go_wp2_with fail
  refine (HB.out _).mono ?_
  rintro e v1 ⟨g', el', rfl, hg, he, hne, r1, r2, hb1⟩
  have hB1 : BAt ⟨g', el', 2, []⟩ 32 [newE sx, newE sx] v1 := ⟨r1, r2, hne⟩
  have HG := Lib.hid (fun (W : World) (h : BAt ⟨g', el', 2, []⟩ 32 [newE sx, newE sx] W) => Get_miss g' el' 2 2 32 34 W h.row (by decide) (by decide) (wid_small (by decide) (by decide)))
  have HP := Lib.hid (fun (W : World) (h : BAt ⟨g', el', 2, []⟩ 32 [newE sx, newE sx] W) => Put_c ⟨g', el', 2, []⟩ 32 32 _ e32 W h (by decide) (wid_small (by decide) (by decide)))
  rw [aw1] at HP
  have hs1 := hb1.size
  clear r1 r2
  have HB1 := Lib.hid hB1
  clear hB1
  go_wp2_with fail
  refine (HG.out _ HB1.out).mono ?_
  rintro e v2 ⟨rfl, hb2⟩
  have hB2 := HB1.out.below hb2
  have hbb2 : Below w.heap.size w v2 := hb1.trans (hb2.mono hs1)
  have hs2 := hbb2.size
  have HB2 := Lib.hid hB2
  clear hB2 hb1 hb2
  go_wp2_with fail
  refine (HP.out _ (HB2.out.below (below_setRow ((Below.refl _ _).alloc (Nat.le_refl _) _) (Nat.le_refl _) _))).mono ?_
  rintro e v3 ⟨rfl, hB3, hA3⟩
  have hbb3 : Below w.heap.size w v3 := by
    have h1 : Below w.heap.size w ((v2.alloc (.cells #[.bool false, .bool false, .bool false, .bool false, .bool false, .int .i64 0, .int .i64 0, .string ⟨#[]⟩] 35)).setRow v2.heap.size (vE zE)) := below_setRow (hbb2.alloc hs2 _) hs2 _
    exact hA3.below h1 (fun k hk => by rw [hk]; exact he) (by simp; omega)
  have HB3 := Lib.hid hB3
  have HRd := Lib.hid (fun (W : World) (h : BAt ⟨g', el', 2, []⟩ 32 (putL 32 [newE sx, newE sx] 32 e32) W) => Ready_c g' el' 2 2 true true 32 _ [] W aw4 (by decide) (by decide) (by have := h.row; rwa [aw4] at this) h.ents aw3)
  clear hB3 hA3
  go_wp2_with fail
  refine (HRd.out _ HB3.out).mono ?_
  rintro e v4 ⟨it, rfl, hit, hb4⟩
  have hit0 := hit (fun _ => False) (fun _ h => h.elim)
  have hbb4 : Below w.heap.size w v4 := hbb3.trans (hb4.mono hbb3.size)
  have HI := Lib.hid hit0
  clear hit hit0 hb4
  go_wp2_with fail
  refine (Best_c _ _ _ _ HI.out).mono ?_
  rw [aw2]
  rintro e v5 ⟨rfl, hb5⟩
  have hbb5 : Below w.heap.size w v5 := hbb4.trans (hb5.mono hbb4.size)
  have hs5 := hbb5.size
  clear hb5 hbb4 hbb3 hbb2
  have hfold : (#[.int .i64 32, .int .i64 160, .int .i64 1, .bool true] : Array Value) = vC ⟨32, 160, 1, true⟩ := rfl
  go_wp2
  go_ret
  exact ⟨rfl, by go_simp⟩
def stepA (first : Int) (d : List E) (x : S) : List E := actL first d x
def runA (first : Int) (d : List E) (l : List S) : List E := l.foldl (actL first) d
theorem runA_len (first : Int) (l : List S) : ∀ d : List E, (runA first d l).length = d.length := by
  induction l with
  | nil => intro d; rfl
  | cons x r ih => intro d; show (runA first (actL first d x) r).length = _; rw [ih, actL_len]
theorem runA_snoc (first : Int) (d : List E) (l : List S) (x : S) : runA first d (l ++ [x]) = actL first (runA first d l) x := by simp [runA]
theorem at_S {w : World} {A : Option Addr} {n : Nat} {xs : List S} (h : Kd.C kS w A n xs) {k : Nat} {x : S} (hk : xs[k]? = some x) : ∃ ad, A = some ad ∧ ∀ j u, (eS x)[j]? = some u → w.cell? (ad.add (k * 11 + j)) = some u := by
  have hl := Kd.C_len h
  have h0 : k < xs.length := (List.getElem?_eq_some_iff.1 hk).1
  obtain ⟨ad, e, hq⟩ := h.2.2 (by omega)
  obtain ⟨c, hc, hK, hcell⟩ := hq k x hk
  obtain rfl := kS_open hK
  exact ⟨ad, e, hcell⟩
end Go.Proofs.Ytbglgblngfbhbaa.Bk

namespace Go.Proofs.Ytbglgblngfbhbaa.Bk
open Go.RowKit Go.Shelf Go.Proofs.Ytbglgblngfbhbaa.IAll Go.Proofs.YtbglgblngfbhbaaW.PrintWords Go.Proofs.YtbglgblngfbhbaaW.PrintLast Go.Proofs.YtbglgblngfbhbaaW.PrintMore
set_option linter.unusedVariables false
set_option linter.unusedSectionVars false
set_option linter.unusedSimpArgs false
attribute [local go_sem] Oper.semAt_some cell_row frozen_row isRow_setCell_eq rowAt_setCell_same rowAt_setCell_other isRow_alloc_eq rowAt_alloc rowAt_new rowAt_new' isRow_setRow_eq rowAt_setRow_same rowAt_setRow_other isRow_drew rowAt_drew size_setRow_ size_drew_ blk_ptr aggOf_agg offv_ptr below_alloc_e below_setCell_e below_setRow_e below_refl_e below_drew_r isRow_drewN rowAt_drewN below_drewN_e le_add_r asideP_alloc_e asideP_setCell_e asideP_setRow_e asideP_drew_e asideP_drewN_e asideP_refl_e allOne_nil allOne_cons Value.oneCell' addr_at mid_FT vE_size vL_size vQ_size vC_size vS_size vP_size vE_one vL_one vQ_one vC_one vS_one vP_one mid_spl spl_size spl_spl
attribute [local go_sem ↓] loadE storeE loadEm storeEm loadEg storeEg loadEmg storeEmg loadL storeL loadLm storeLm loadQ storeQ loadQm storeQm loadC storeC loadCg storeCg loadS storeS loadSm loadP storeP loadPm loadPg storePg 
set_option maxRecDepth 100000

def goodD (d : List E) : Prop := ∀ e ∈ d, goodE e
theorem realP_all : ∀ p : Fin 256, 0 ≤ realP (p.val : Int) ∧ realP (p.val : Int) ≤ 255 := by decide +kernel
theorem realP_in {p : Int} (h0 : 0 ≤ p) (h1 : p ≤ 255) : 0 ≤ realP p ∧ realP p ≤ 255 := by
  have := realP_all ⟨p.toNat, by omega⟩
  simpa [show ((p.toNat : Nat) : Int) = p by omega] using this
theorem good_set {d : List E} (h : goodD d) (k : Nat) {x : E} (hx : goodE x) : goodD (d.set k x) := fun e he => by
  rcases List.mem_or_eq_of_mem_set he with h1 | rfl
  · exact h e h1
  · exact hx
theorem good_setE {x : E} (h : goodE x) : goodE (setE x) := ⟨h.1, (realP_in h.2.1 h.2.2).1, (realP_in h.2.1 h.2.2).2⟩
theorem good_putL {d : List E} (h : goodD d) (first id : Int) (x : E) : goodD (putL first d id x) := by
  unfold putL
  split
  · rename_i hh; exact good_set h _ (good_setE hh.2)
  · exact h
theorem good_doL {d : List E} (h : goodD d) (first id a : Int) : goodD (doL first d id a) := by
  unfold doL
  split
  · rename_i hh
    obtain ⟨k, hk, rfl⟩ := hasB_yes hh
    rw [show kOf first (first + k) = k by unfold kOf; omega, modify_at _ (List.getElem?_eq_getElem hk)]
    exact good_set h _ (h d[k] (List.getElem_mem hk))
  · exact h
theorem good_zero (d : List E) : goodD (d.map zeroE) := fun e he => by
  obtain ⟨x, -, rfl⟩ := List.mem_map.1 he
  exact ⟨.inl rfl, show (0 : Int) ≤ 0 by decide, show (0 : Int) ≤ 255 by decide⟩
theorem good_actL {d : List E} (h : goodD d) (first : Int) (x : S) : goodD (actL first d x) := by
  unfold actL
  split
  · exact good_putL h _ _ _
  · split
    · exact good_doL h _ _ _
    · split
      · exact good_zero d
      · exact h
theorem good_runA (first : Int) (l : List S) : ∀ {d : List E}, goodD d → goodD (runA first d l) := by
  induction l with
  | nil => intro d h; exact h
  | cons x r ih => intro d h; exact ih (good_actL h first x)
theorem good_d0 (m : Int) : goodD (d0 m) := fun e he => by
  obtain ⟨-, rfl⟩ := List.mem_replicate.1 he
  exact ⟨.inl rfl, by decide, by decide⟩
theorem good_grp {d : List E} (h : goodD d) : ∀ x ∈ d, x.f5 = 0 ∨ x.f5 = 1 := fun x hx => (h x hx).1
theorem neq_ptr (ad : Addr) (W : World) : (binOp .neq 23 (.pointer (some ad)) (.pointer none)).run Try.prog W = .ok (.bool true) W := by kernel_rfl
set_option maxHeartbeats 4000000 in
theorem played_c (first m : Int) (A : Option Addr) (c : Nat) (xs : List S) (w : World) (h0 : 0 ≤ first) (h1 : first ≤ 255) (h2 : 0 ≤ m) (h3 : m ≤ 255) (hC : Kd.C kS w A xs.length xs) (hbig : xs.length ≤ 9223372036854775807) (hW : ∀ x ∈ xs, Wid x.f1) :
    Calls Try.prog 16 #[.int .u8 first, .int .u8 m, .slice A xs.length c] w fun e w' => ∃ b, e = .returned (.pointer (some ⟨b.g, 0, none⟩)) ∧ BAt b first (runA first (d0 m) xs) w' ∧ w.heap.size ≤ b.g ∧ w.heap.size ≤ b.e ∧ Below w.heap.size w w' := by
  have hn := nOf_lt m
  go_enter Try.func16, Try.ntmps16
  go_wp2_with fail
  refine (both_c first m w h0 h1 h2 h3).mono ?_
  rintro e v1 ⟨b, r, rfl, hB, hR, hAp, ⟨p1, p2, p3, p4⟩, hb⟩
  have hs1 := hb.size
  have HC := Lib.hid hC
  have HAp := Lib.hid hAp
  have HP := Lib.hid p4
  clear hC hAp p4
  go_wp2
  go_loopw [9] (fun q wr => ∃ k : Nat, k ≤ xs.length ∧ q = .int .i64 k ∧ BAt b first (runA first (d0 m) (xs.take k)) wr ∧ RAt r first (runA first (d0 m) (xs.take k)) wr ∧ Below w.heap.size w wr ∧ AsideP (Ch b r (nOf m)) v1 wr) (fun q _ => xs.length - (intOf q).toNat)
  case atStart => exact ⟨0, by omega, rfl, hB, hR, hb, .of_below (Below.refl _ _)⟩
  case round =>
    obtain ⟨k, hk, rfl, hBk, hRk, hbk, hA⟩ := hrel
    clear hB hR hb
    have hlen : (runA first (d0 m) (xs.take k)).length = nOf m := by rw [runA_len, d0_len]
    by_cases hlt : k < xs.length
    · have k1 : (k : Int) < xs.length := by omega
      have k0 : (0 : Int) ≤ k := by omega
      have k2 : decide ((k : Int) < xs.length) = true := decide_eq_true k1
      have w3 : IntKind.i64.wrap ((k : Int) + 1) = (k : Int) + 1 := IntWalk.i64_in _ (by omega)
      have hget : xs[k]? = some xs[k] := List.getElem?_eq_getElem hlt
      have hWk := hW xs[k] (List.getElem_mem hlt)
      generalize xs[k] = x at hget hWk
      have hT : xs.take (k + 1) = xs.take k ++ [x] := by rw [List.take_add_one, hget]; rfl
      obtain ⟨ad, rfl, hcell⟩ := at_S HC.out hget
      have hcl : ∀ j u, (eS x)[j]? = some u → wr.cell? (ad.add (k * 11 + j)) = some u := fun j u hu => by
        have h9 := hcell j u hu
        exact (hbk.cell (World.block_lt_of_cell? w _ h9)).trans h9
      have c0 : wr.cell? (ad.add (k * 11)) = some (.int .i64 x.f0) := hcl 0 _ rfl
      have c1 := (by rw [← add_field _ _ 1 (by omega)]; exact hcl 1 _ rfl : wr.cell? ⟨(ad.add (k * 11)).block, (ad.add (k * 11)).off + 1, none⟩ = some (.int .i64 x.f1))
      have c2 := (by rw [← add_field _ _ 2 (by omega)]; exact hcl 2 _ rfl : wr.cell? ⟨(ad.add (k * 11)).block, (ad.add (k * 11)).off + 2, none⟩ = some (.bool x.f2))
      have c3 := (by rw [← add_field _ _ 3 (by omega)]; exact hcl 3 _ rfl : wr.cell? ⟨(ad.add (k * 11)).block, (ad.add (k * 11)).off + 3, none⟩ = some (.bool x.f3))
      have c4 := (by rw [← add_field _ _ 4 (by omega)]; exact hcl 4 _ rfl : wr.cell? ⟨(ad.add (k * 11)).block, (ad.add (k * 11)).off + 4, none⟩ = some (.bool x.f4))
      have c5 := (by rw [← add_field _ _ 5 (by omega)]; exact hcl 5 _ rfl : wr.cell? ⟨(ad.add (k * 11)).block, (ad.add (k * 11)).off + 5, none⟩ = some (.bool x.f5))
      have c6 := (by rw [← add_field _ _ 6 (by omega)]; exact hcl 6 _ rfl : wr.cell? ⟨(ad.add (k * 11)).block, (ad.add (k * 11)).off + 6, none⟩ = some (.bool x.f6))
      have c7 := (by rw [← add_field _ _ 7 (by omega)]; exact hcl 7 _ rfl : wr.cell? ⟨(ad.add (k * 11)).block, (ad.add (k * 11)).off + 7, none⟩ = some (.int .i64 x.f7))
      have c8 := (by rw [← add_field _ _ 8 (by omega)]; exact hcl 8 _ rfl : wr.cell? ⟨(ad.add (k * 11)).block, (ad.add (k * 11)).off + 8, none⟩ = some (.int .i64 x.f8))
      have c9 := (by rw [← add_field _ _ 9 (by omega)]; exact hcl 9 _ rfl : wr.cell? ⟨(ad.add (k * 11)).block, (ad.add (k * 11)).off + 9, none⟩ = some (.string x.f9))
      have c10 := (by rw [← add_field _ _ 10 (by omega)]; exact hcl 10 _ rfl : wr.cell? ⟨(ad.add (k * 11)).block, (ad.add (k * 11)).off + 10, none⟩ = some (.int .i64 x.f10))
      have hap' : Apart b r (runA first (d0 m) (xs.take k)).length := by rw [hlen]; exact HAp.out
      have HD := Lib.hid (does_c b r first _ x wr hBk hRk hap' h0 (by rw [hlen]; omega) hWk)
      have HT := Lib.hid hT
      have HX := Lib.hid (And.intro hbk hA)
      clear hcl hcell hget hT hBk hRk hbk hA hWk hap'
      go_wp2_with fail
      refine HD.out.mono ?_
      rintro e u1 ⟨rfl, hB1, hR1, hA1⟩
      rw [hlen] at hA1
      go_wp2
      go_roundw
      case rel =>
        refine ⟨k + 1, by omega, congrArg (Value.int .i64) (by omega), by rw [HT.out, runA_snoc]; exact hB1, by rw [HT.out, runA_snoc]; exact hR1, ?_, HX.out.2.trans hA1⟩
        refine hA1.below HX.out.1 (fun j hj => ?_) HX.out.1.size
        rcases hj with rfl | ⟨hp, rfl | rfl⟩
        · exact p2
        · exact (HP.out hp).1
        · exact (HP.out hp).2
      case measure => simp [intOf]; omega
    · obtain rfl : k = xs.length := by omega
      have k2 : decide ((xs.length : Int) < xs.length) = false := decide_eq_false (by omega)
      rw [List.take_of_length_le (Nat.le_refl _)] at hBk
      have HX := Lib.hid (And.intro hBk hbk)
      clear hBk hRk hbk hA
      go_wp2
      go_ret
      exact ⟨b, rfl, HX.out.1, p1, p2, HX.out.2⟩
end Go.Proofs.Ytbglgblngfbhbaa.Bk
