/- The law IrqSteps: its walk. -/
import Derived.Test.YtmioioaapikbkaaIs1
import Derived.Test.YtmioioaapikbkaaAp
namespace Go.Proofs.Ytmioioaapikbkaa.Is
open Go.RowKit Go.Shelf Go.Proofs.Ytmioioaapikbkaa.IAll Go.Proofs.Ytmioioaapikbkaa.Pure Go.Proofs.YtmioioaapikbkaaW.PrintWords Go.Proofs.YtmioioaapikbkaaW.PrintLast Go.Proofs.YtmioioaapikbkaaW.PrintMore
attribute [local go_sem] Oper.semAt_some cell_row frozen_row isRow_setCell_eq rowAt_setCell_same rowAt_setCell_other isRow_alloc_eq rowAt_alloc rowAt_new rowAt_new' isRow_setRow_eq rowAt_setRow_same rowAt_setRow_other isRow_drew rowAt_drew size_setRow_ blk_ptr aggOf_agg below_alloc_e below_setCell_e below_setRow_e below_refl_e below_drew_r isRow_drewN rowAt_drewN below_drewN_e le_add_r En_size En_one size_drew_ asideP_alloc_e asideP_setCell_e asideP_setRow_e asideP_drew_e asideP_drewN_e asideP_refl_e in3a in3b in3c cell_setRow_far cell_setCell_far cell_drew_ heap_setCell_far heap_drew_ bne_self_eq_false
attribute [local go_sem high] eqSS
attribute [local go_sem ↓] loadS storeS loadSg storeSg
theorem LetsOut.no {Q : Exit → Act → World → Prop} (h : ∀ a w, ¬ Q .outgrown a w) : ¬ LetsOut Q := fun ⟨a, w, q⟩ => h a w q
theorem KeepC.aside {P : Nat → Prop} {W W' : World} (h : AsideP P W W') : KeepC P W W' := ⟨h.size, fun k _ hc hi _ => (h.block k (Array.getElem?_eq_some_iff.1 hi).1 hc).trans hi⟩
theorem only_wide {P : Program} {c : Code} {K : Act → World → Prop} {Q : Exit → Act → World → Prop} {n : Nat} {a : Act} {w : World} (h : c.wp P (Exit.then K (fun _ _ _ => False)) a w) : c.wpIn Fence.wide n P (Exit.then K Q) a w :=
  wpIn_mono (wpIn_wide.2 h) (fun e a w q => by cases e <;> first | exact q | exact q.elim)
theorem one_set {cs : Array Value} {v : Value} (h : cs.size = 1) : cs.setIfInBounds 0 v = #[v] := by
  obtain ⟨l⟩ := cs
  match l, h with
  | [x], _ => rfl
theorem leave_bool {fn : Func} {p : Tmp} {g D : Nat} {b : Bool} {R : Ending → World → Prop} {tmps : Array Value} {w : World} (hK : w.heap[D]? = some (.deferred (some []))) (hres : fn.results = #[.cell p 4]) (hp : tmps.getD p undef = .pointer (some ⟨g, 0, none⟩)) (hg : isRow w g) (hg' : rowAt w g = #[.bool b]) (hne : ¬ D = g) (hR : R (.returned (.bool b)) (w.putObj D (.deferred none))) :
    bodyPostM Fence.wide 0 Try.prog fn R .ret { tmps := tmps, defers := [{ target := .collected D, args := #[] }] } w := by
  have hr : Row (w.putObj D (.deferred none)) g #[.bool b] := Row.same ⟨hg, hg'⟩ (World.putObj_heap_other (fun e => hne e.symm))
  have d1 : (w.putObj D (.deferred none)).cell? ⟨g, 0, none⟩ = some (.bool b) := by rw [cell_row hr.1, hr.2]; rfl
  exact leave_mark hK (v := .bool b) (by have hp' : tmps[p]?.getD undef = .pointer (some ⟨g, 0, none⟩) := by simpa using hp
                                         simp [results, hres, go_sem, hp', d1]) hR
theorem lst_step (s : St) (l : List Int) (pre : List St) : stk s l (pre.length + 1) = stp (lst s l pre) (rd l pre.length) := rfl
theorem lst_full (s : St) (l : List Int) (n : Nat) : lst s l (sts s l n) = stk s l n := by rw [lst, sts_len]
set_option maxRecDepth 100000 in
set_option maxHeartbeats 4000000 in
theorem steps_law (s : St) (A : Option Addr) (n c : Nat) (l : List Int) (w : World) (hr : Kd.C (Kd.int .i64) w A n l) :
    Calls Try.prog 8 #[.agg (En s), .slice A n c] w fun e w' => e = .returned (.bool true) ∧ Below w.heap.size w w' := by
  refine calls_of_wide ?_
  refine callsIn_of_wp_marks Try.func8 rfl trivial ?_ rfl
  simp only [Try.ntmps8, List.size_toArray, List.length_cons, List.length_nil, Nat.reduceAdd, Nat.reduceSub, Array.replicate_succ, Array.replicate_zero, List.push_toArray, List.append_toArray, List.nil_append, List.cons_append]
  have hn : l.length = n := Kd.C_len hr
  have hmx := Kd.C_max hr
  have hA : ∀ ad, A = some ad → 0 < n → ad.block < w.heap.size := by
    rintro ad rfl h0
    exact Kd.C_lt hr h0 (by decide)
  gi_wp2_with fail
  refine callsIn_named (fun W_ => (isRow W_ w.heap.size ∧ rowAt W_ w.heap.size = En s) ∧ (isRow W_ (w.heap.size + 1) ∧ rowAt W_ (w.heap.size + 1) = #[.slice A n c]) ∧ (isRow W_ (w.heap.size + 1 + 1) ∧ rowAt W_ (w.heap.size + 1 + 1) = #[.bool false]) ∧ Below w.heap.size w W_) (by refine ⟨⟨by go_simp, by go_simp⟩, ⟨by go_simp, by go_simp⟩, ⟨by go_simp, by go_simp⟩, (((Below.refl _ w).alloc (Nat.le_refl _) _).alloc (by simp) _).alloc (by simp; omega) _⟩) ?_
  rintro W0 ⟨⟨a1, a1'⟩, ⟨a2, a2'⟩, ⟨a3, a3'⟩, hB0⟩
  refine (in_of_calls (awake_c _)).mono ?_
  rintro e W1 ⟨rfl, hb1⟩
  obtain ⟨b1, b1'⟩ := Row.step a1 a1' hb1
  obtain ⟨b2, b2'⟩ := Row.step a2 a2' hb1
  obtain ⟨b3, b3'⟩ := Row.step a3 a3' hb1
  have hB1 : Below w.heap.size w W1 := bk hB0 hB0.size hb1
  clear a1 a1' a2 a2' a3 a3' hB0 hb1
  have l1 := b1.lt
  have l3 := b3.lt
  have ne00 : ¬ w.heap.size = W1.heap.size := by omega
  have en00 : ¬ W1.heap.size = w.heap.size := by omega
  have ne01 : ¬ w.heap.size = W1.heap.size + 1 := by omega
  have en01 : ¬ W1.heap.size + 1 = w.heap.size := by omega
  have ne02 : ¬ w.heap.size = W1.heap.size + 1 + 1 := by omega
  have en02 : ¬ W1.heap.size + 1 + 1 = w.heap.size := by omega
  have ne10 : ¬ w.heap.size + 1 = W1.heap.size := by omega
  have en10 : ¬ W1.heap.size = w.heap.size + 1 := by omega
  have ne11 : ¬ w.heap.size + 1 = W1.heap.size + 1 := by omega
  have en11 : ¬ W1.heap.size + 1 = w.heap.size + 1 := by omega
  have ne12 : ¬ w.heap.size + 1 = W1.heap.size + 1 + 1 := by omega
  have en12 : ¬ W1.heap.size + 1 + 1 = w.heap.size + 1 := by omega
  have ne20 : ¬ w.heap.size + 1 + 1 = W1.heap.size := by omega
  have en20 : ¬ W1.heap.size = w.heap.size + 1 + 1 := by omega
  have ne21 : ¬ w.heap.size + 1 + 1 = W1.heap.size + 1 := by omega
  have en21 : ¬ W1.heap.size + 1 = w.heap.size + 1 + 1 := by omega
  have ne22 : ¬ w.heap.size + 1 + 1 = W1.heap.size + 1 + 1 := by omega
  have en22 : ¬ W1.heap.size + 1 + 1 = w.heap.size + 1 + 1 := by omega
  have lw0 : w.heap.size ≤ W1.heap.size := hB1.size
  gi_wp2_with fail
  refine wpIn_wide.2 ?_
  go_region
  · skip
    gi_wp2_with fail
    refine callsIn_named (fun W_ => (isRow W_ w.heap.size ∧ rowAt W_ w.heap.size = En s) ∧ (isRow W_ (w.heap.size + 1) ∧ rowAt W_ (w.heap.size + 1) = #[.slice A n c]) ∧ (isRow W_ (w.heap.size + 1 + 1) ∧ rowAt W_ (w.heap.size + 1 + 1) = #[.bool false]) ∧ (isRow W_ W1.heap.size ∧ rowAt W_ W1.heap.size = En s) ∧ (isRow W_ (W1.heap.size + 1) ∧ rowAt W_ (W1.heap.size + 1) = En s) ∧ (isRow W_ (W1.heap.size + 1 + 1) ∧ rowAt W_ (W1.heap.size + 1 + 1) = #[.int .i64 0]) ∧ Below w.heap.size w W_) (by refine ⟨⟨by go_simp, by go_simp⟩, ⟨by go_simp, by go_simp⟩, ⟨by go_simp, by go_simp⟩, ⟨by go_simp, by go_simp⟩, ⟨by go_simp, by go_simp⟩, ⟨by go_simp, by go_simp⟩, (below_setRow (below_setRow (below_drew0 ((hB1.alloc lw0 _).alloc (by simp; omega) _)) (by omega) _) (by omega) _).alloc (by simp; omega) _⟩) ?_
    rintro W2 ⟨⟨a1, a1'⟩, ⟨a2, a2'⟩, ⟨a3, a3'⟩, ⟨a4, a4'⟩, ⟨a5, a5'⟩, ⟨a6, a6'⟩, hB2⟩
    refine (in_of_calls (Play_c s A n c _)).mono ?_
    rintro e W9 ⟨rfl, rfl⟩
    clear b1 b1' b2 b2' b3 b3' hB1
    have g6 := a6.lt
    have lw2 : w.heap.size ≤ W2.heap.size := hB2.size
    have hb4 : Below w.heap.size w ((W2.alloc (.cells (En s) 23)).alloc (.cells #[.slice A n c] 27)) := (hB2.alloc (by omega) _).alloc (by simp; omega) _
    have y1 : Row ((W2.alloc (.cells (En s) 23)).alloc (.cells #[.slice A n c] 27)) w.heap.size (En s) := ⟨by go_simp, by go_simp⟩
    have y2 : Row ((W2.alloc (.cells (En s) 23)).alloc (.cells #[.slice A n c] 27)) (w.heap.size + 1) #[.slice A n c] := ⟨by go_simp, by go_simp⟩
    have y3 : Row ((W2.alloc (.cells (En s) 23)).alloc (.cells #[.slice A n c] 27)) (w.heap.size + 1 + 1) #[.bool false] := ⟨by go_simp, by go_simp⟩
    have y4 : Row ((W2.alloc (.cells (En s) 23)).alloc (.cells #[.slice A n c] 27)) W1.heap.size (En s) := ⟨by go_simp, by go_simp⟩
    have y5 : Row ((W2.alloc (.cells (En s) 23)).alloc (.cells #[.slice A n c] 27)) (W1.heap.size + 1) (En s) := ⟨by go_simp, by go_simp⟩
    have y6 : Row ((W2.alloc (.cells (En s) 23)).alloc (.cells #[.slice A n c] 27)) (W1.heap.size + 1 + 1) #[.int .i64 0] := ⟨by go_simp, by go_simp⟩
    have y7 : Row ((W2.alloc (.cells (En s) 23)).alloc (.cells #[.slice A n c] 27)) W2.heap.size (En s) := ⟨by go_simp, by go_simp⟩
    have y8 : Row ((W2.alloc (.cells (En s) 23)).alloc (.cells #[.slice A n c] 27)) (W2.heap.size + 1) #[.slice A n c] := ⟨by go_simp, by go_simp⟩
    have hs4 : ((W2.alloc (.cells (En s) 23)).alloc (.cells #[.slice A n c] 27)).heap.size = W2.heap.size + 2 := by simp
    unfold PlayV
    generalize (W2.alloc (.cells (En s) 23)).alloc (.cells #[.slice A n c] 27) = W3 at *
    clear a1 a1' a2 a2' a3 a3' a4 a4' a5 a5' a6 a6' hB2
    have hrC := Kd.C_below hr hb4
    gi_wp2_with fail
    refine wp_range (Pv := fun _ => True) (fun _ _ => trivial) rfl (enters_of Try.func26 (by kernel_rfl) rfl) (play_iter (In3 w.heap.size W1.heap.size (W1.heap.size + 1 + 1)) s A n c l W2.heap.size (W2.heap.size + 1) W3 hn hmx (fun k h => by unfold In3; omega) (by unfold In3; omega) (by unfold In3; omega) (fun ad e h => by have := hA ad e h; unfold In3; omega) y7 y8 hrC) (Below.refl _ _)
      (fun h k => h.trans k) (fun W l o o' _ h1 h2 => KeepC.put W l o o' h1 h2) (fun _ => rfl)
      (fun pre W => Row W w.heap.size (En (lst s l pre)) ∧ Row W (w.heap.size + 1) #[.slice A n c] ∧ Row W (w.heap.size + 1 + 1) #[.bool false] ∧ Row W W1.heap.size (En (lst s l pre)) ∧ Row W (W1.heap.size + 1) (En s) ∧ Row W (W1.heap.size + 1 + 1) #[.int .i64 pre.length] ∧ Below w.heap.size w W) (fun _ _ _ => False)
      ((OwnP.row _ (by omega) (fun pre : List St => En (lst s l pre))).and ((OwnP.row _ (by omega) (fun _ : List St => #[.slice A n c])).and ((OwnP.row _ (by omega) (fun _ : List St => #[.bool false])).and ((OwnP.row _ (by omega) (fun pre : List St => En (lst s l pre))).and ((OwnP.row _ (by omega) (fun _ : List St => En s)).and ((OwnP.row _ (by omega) (fun pre : List St => #[.int .i64 pre.length])).and (OwnP.below _ (by omega) (by omega)))))))) (fun _ => OwnP.const _ _ (fun _ => False))
      ⟨y1, y2, y3, y4, y5, y6, hb4⟩ ?round ?done ?stop
    case round =>
      rintro l' pre x post W hx hl_ hlt ⟨⟨c1, c1'⟩, ⟨c2, c2'⟩, ⟨c3, c3'⟩, ⟨c4, c4'⟩, ⟨c5, c5'⟩, ⟨c6, c6'⟩, hBW⟩
      obtain ⟨hk, rfl, -⟩ := sts_split s l hx
      have hq := lst_snoc s l pre (stk s l (pre.length + 1))
      have hlenI : ((pre ++ [stk s l (pre.length + 1)]).length : Int) = pre.length + 1 := by simp
      have hst := lst_step s l pre
      generalize stk s l (pre.length + 1) = x at *
      subst hst
      clear hx y1 y2 y3 y4 y5 y6 y7 y8
      have q6 := c6.lt
      have e1 : ¬ w.heap.size = W.heap.size := by omega
      have e2 : ¬ (w.heap.size + 1) = W.heap.size := by omega
      have e3 : ¬ (w.heap.size + 1 + 1) = W.heap.size := by omega
      have e4 : ¬ W1.heap.size = W.heap.size := by omega
      have e5 : ¬ (W1.heap.size + 1) = W.heap.size := by omega
      have e6 : ¬ (W1.heap.size + 1 + 1) = W.heap.size := by omega
      have e7 : w.heap.size ≤ W.heap.size := hBW.size
      gi_wp2
      have hbn : Below W.heap.size W ((W.alloc (.cells #[.bool false, .bool false, .bool false, .bool false] 23)).setRow W.heap.size (En (stp (lst s l pre) (rd l pre.length)))) := below_setRow ((Below.refl _ W).alloc (Nat.le_refl _) _) (Nat.le_refl _) _
      refine ⟨KeepsFrom.low hbn, KeepC.low hbn, ⟨⟨by go_simp, by go_simp⟩, ⟨by go_simp, by go_simp⟩, ⟨by go_simp, by go_simp⟩, ⟨by go_simp, by go_simp⟩, ⟨by go_simp, by go_simp⟩, ⟨by go_simp, by go_simp⟩, bk hBW hBW.size hbn⟩, ?_⟩
      have r7 : Row ((W.alloc (.cells #[.bool false, .bool false, .bool false, .bool false] 23)).setRow W.heap.size (En (stp (lst s l pre) (rd l pre.length)))) W.heap.size (En (stp (lst s l pre) (rd l pre.length))) := Row.setRow isRow_new
      rintro U hg ⟨⟨d1, d1'⟩, ⟨d2, d2'⟩, ⟨d3, d3'⟩, ⟨d4, d4'⟩, ⟨d5, d5'⟩, ⟨d6, d6'⟩, hBU⟩
      obtain ⟨d7, d7'⟩ := Row.kept r7 hg (by intro e; cases e; omega)
      clear hbn r7 hg c1 c1' c2 c2' c3 c3' c4 c4' c5 c5' c6 c6' hBW
      have k0 : (0 : Int) ≤ pre.length := by omega
      have k1 : (pre.length : Int) < n := by omega
      have k2 : ¬ (n : Int) ≤ pre.length := by omega
      have hlU := d7.lt
      obtain ⟨ad, e, hx⟩ := Kd.at_int (Kd.C_below hr hBU) (pre.length : Int) k0 k1
      have hab := hA ad e (by omega)
      cases e
      rw [Int.toNat_natCast] at hx
      have habk : (ad.add pre.length).block < w.heap.size := by unfold Addr.add; split <;> exact hab
      clear hab hA hrC
      have f1 : ¬ w.heap.size = (ad.add pre.length).block := by omega
      have f4 : ¬ W1.heap.size = (ad.add pre.length).block := by omega
      have f6 : ¬ (W1.heap.size + 1 + 1) = (ad.add pre.length).block := by omega
      have hw1 : wrap64 ((pre.length : Int) + 1) = pre.length + 1 := w64 _ (by omega)
      have pn01 : ¬ w.heap.size = w.heap.size + 1 := by omega
      have pn02 : ¬ w.heap.size = w.heap.size + 1 + 1 := by omega
      have pn03 : ¬ w.heap.size = W1.heap.size := by omega
      have pn04 : ¬ w.heap.size = W1.heap.size + 1 := by omega
      have pn05 : ¬ w.heap.size = W1.heap.size + 1 + 1 := by omega
      have pn06 : ¬ w.heap.size = W.heap.size := by omega
      have pn10 : ¬ w.heap.size + 1 = w.heap.size := by omega
      have pn12 : ¬ w.heap.size + 1 = w.heap.size + 1 + 1 := by omega
      have pn13 : ¬ w.heap.size + 1 = W1.heap.size := by omega
      have pn14 : ¬ w.heap.size + 1 = W1.heap.size + 1 := by omega
      have pn15 : ¬ w.heap.size + 1 = W1.heap.size + 1 + 1 := by omega
      have pn16 : ¬ w.heap.size + 1 = W.heap.size := by omega
      have pn20 : ¬ w.heap.size + 1 + 1 = w.heap.size := by omega
      have pn21 : ¬ w.heap.size + 1 + 1 = w.heap.size + 1 := by omega
      have pn23 : ¬ w.heap.size + 1 + 1 = W1.heap.size := by omega
      have pn24 : ¬ w.heap.size + 1 + 1 = W1.heap.size + 1 := by omega
      have pn25 : ¬ w.heap.size + 1 + 1 = W1.heap.size + 1 + 1 := by omega
      have pn26 : ¬ w.heap.size + 1 + 1 = W.heap.size := by omega
      have pn30 : ¬ W1.heap.size = w.heap.size := by omega
      have pn31 : ¬ W1.heap.size = w.heap.size + 1 := by omega
      have pn32 : ¬ W1.heap.size = w.heap.size + 1 + 1 := by omega
      have pn34 : ¬ W1.heap.size = W1.heap.size + 1 := by omega
      have pn35 : ¬ W1.heap.size = W1.heap.size + 1 + 1 := by omega
      have pn36 : ¬ W1.heap.size = W.heap.size := by omega
      have pn40 : ¬ W1.heap.size + 1 = w.heap.size := by omega
      have pn41 : ¬ W1.heap.size + 1 = w.heap.size + 1 := by omega
      have pn42 : ¬ W1.heap.size + 1 = w.heap.size + 1 + 1 := by omega
      have pn43 : ¬ W1.heap.size + 1 = W1.heap.size := by omega
      have pn45 : ¬ W1.heap.size + 1 = W1.heap.size + 1 + 1 := by omega
      have pn46 : ¬ W1.heap.size + 1 = W.heap.size := by omega
      have pn50 : ¬ W1.heap.size + 1 + 1 = w.heap.size := by omega
      have pn51 : ¬ W1.heap.size + 1 + 1 = w.heap.size + 1 := by omega
      have pn52 : ¬ W1.heap.size + 1 + 1 = w.heap.size + 1 + 1 := by omega
      have pn53 : ¬ W1.heap.size + 1 + 1 = W1.heap.size := by omega
      have pn54 : ¬ W1.heap.size + 1 + 1 = W1.heap.size + 1 := by omega
      have pn56 : ¬ W1.heap.size + 1 + 1 = W.heap.size := by omega
      have pn60 : ¬ W.heap.size = w.heap.size := by omega
      have pn61 : ¬ W.heap.size = w.heap.size + 1 := by omega
      have pn62 : ¬ W.heap.size = w.heap.size + 1 + 1 := by omega
      have pn63 : ¬ W.heap.size = W1.heap.size := by omega
      have pn64 : ¬ W.heap.size = W1.heap.size + 1 := by omega
      have pn65 : ¬ W.heap.size = W1.heap.size + 1 + 1 := by omega
      have hX : AsideP (In3 w.heap.size W1.heap.size (W1.heap.size + 1 + 1)) U U := .of_below (Below.refl _ _)
      have hin1 : In3 w.heap.size W1.heap.size (W1.heap.size + 1 + 1) w.heap.size := in3a
      have hin2 : In3 w.heap.size W1.heap.size (W1.heap.size + 1 + 1) W1.heap.size := in3b
      have hin3 : In3 w.heap.size W1.heap.size (W1.heap.size + 1 + 1) (W1.heap.size + 1 + 1) := in3c
      gi_wp2_with fail
      refine wpIn_named (fun W_ => (isRow W_ w.heap.size ∧ rowAt W_ w.heap.size = (En (lst s l pre))) ∧ (isRow W_ (w.heap.size + 1) ∧ rowAt W_ (w.heap.size + 1) = #[.slice (some ad) n c]) ∧ (isRow W_ (w.heap.size + 1 + 1) ∧ rowAt W_ (w.heap.size + 1 + 1) = #[.bool false]) ∧ (isRow W_ W1.heap.size ∧ rowAt W_ W1.heap.size = (En (lst s l pre))) ∧ (isRow W_ (W1.heap.size + 1) ∧ rowAt W_ (W1.heap.size + 1) = (En s)) ∧ (isRow W_ (W1.heap.size + 1 + 1) ∧ rowAt W_ (W1.heap.size + 1 + 1) = #[.int .i64 pre.length]) ∧ (isRow W_ W.heap.size ∧ rowAt W_ W.heap.size = (En (stp (lst s l pre) (rd l pre.length)))) ∧ W_.cell? (ad.add pre.length) = some (.int .i64 (rd l pre.length)) ∧ AsideP (In3 w.heap.size W1.heap.size (W1.heap.size + 1 + 1)) U W_) (by refine ⟨⟨by go_simp, by go_simp⟩, ⟨by go_simp, by go_simp⟩, ⟨by go_simp, by go_simp⟩, ⟨by go_simp, by go_simp⟩, ⟨by go_simp, by go_simp⟩, ⟨by go_simp, by go_simp⟩, ⟨by go_simp, by go_simp⟩, by first | assumption | (go_simp; done) | exact hx, by go_simp⟩) ?_
      rintro v1 ⟨⟨S_1, S_1'⟩, ⟨A_1, A_1'⟩, ⟨B_1, B_1'⟩, ⟨R_1, R_1'⟩, ⟨F_1, F_1'⟩, ⟨N_1, N_1'⟩, ⟨X_1, X_1'⟩, al0_1, hB_1⟩
      clear d1 d1' d2 d2' d3 d3' d4 d4' d5 d5' d6 d6' d7 d7' hX hx
      have hz_1 : U.heap.size ≤ v1.heap.size := hB_1.size
      have hl_S_1 := isRow.lt S_1
      have ne_S_1_0 : ¬ w.heap.size = v1.heap.size := by omega
      have en_S_1_0 : ¬ v1.heap.size = w.heap.size := by omega
      have hl_A_1 := isRow.lt A_1
      have ne_A_1_0 : ¬ (w.heap.size + 1) = v1.heap.size := by omega
      have en_A_1_0 : ¬ v1.heap.size = (w.heap.size + 1) := by omega
      have hl_B_1 := isRow.lt B_1
      have ne_B_1_0 : ¬ (w.heap.size + 1 + 1) = v1.heap.size := by omega
      have en_B_1_0 : ¬ v1.heap.size = (w.heap.size + 1 + 1) := by omega
      have hl_R_1 := isRow.lt R_1
      have ne_R_1_0 : ¬ W1.heap.size = v1.heap.size := by omega
      have en_R_1_0 : ¬ v1.heap.size = W1.heap.size := by omega
      have hl_F_1 := isRow.lt F_1
      have ne_F_1_0 : ¬ (W1.heap.size + 1) = v1.heap.size := by omega
      have en_F_1_0 : ¬ v1.heap.size = (W1.heap.size + 1) := by omega
      have hl_N_1 := isRow.lt N_1
      have ne_N_1_0 : ¬ (W1.heap.size + 1 + 1) = v1.heap.size := by omega
      have en_N_1_0 : ¬ v1.heap.size = (W1.heap.size + 1 + 1) := by omega
      have hl_X_1 := isRow.lt X_1
      have ne_X_1_0 : ¬ W.heap.size = v1.heap.size := by omega
      have en_X_1_0 : ¬ v1.heap.size = W.heap.size := by omega
      refine wpIn_region_held (S := fun w' => (isRow w' w.heap.size ∧ rowAt w' w.heap.size = (En (lst s l pre))) ∧ (isRow w' (w.heap.size + 1) ∧ rowAt w' (w.heap.size + 1) = #[.slice (some ad) n c]) ∧ (isRow w' (w.heap.size + 1 + 1) ∧ rowAt w' (w.heap.size + 1 + 1) = #[.bool false]) ∧ (isRow w' W1.heap.size ∧ (rowAt w' W1.heap.size).size = 4) ∧ (isRow w' (W1.heap.size + 1) ∧ rowAt w' (W1.heap.size + 1) = (En s)) ∧ (isRow w' (W1.heap.size + 1 + 1) ∧ rowAt w' (W1.heap.size + 1 + 1) = #[.int .i64 pre.length]) ∧ (isRow w' W.heap.size ∧ rowAt w' W.heap.size = (En (stp (lst s l pre) (rd l pre.length)))) ∧ w'.cell? (ad.add pre.length) = some (.int .i64 (rd l pre.length)) ∧ AsideP (In3 w.heap.size W1.heap.size (W1.heap.size + 1 + 1)) U w') (by kernel_rfl) (by kernel_rfl) (by rintro ⟨_, _, h_⟩; exact h_) ⟨⟨by go_simp, by go_simp⟩, ⟨by go_simp, by go_simp⟩, ⟨by go_simp, by go_simp⟩, ⟨by go_simp, by go_simp⟩, ⟨by go_simp, by go_simp⟩, ⟨by go_simp, by go_simp⟩, ⟨by go_simp, by go_simp⟩, by first | exact al0_1 | (go_simp; done), by go_simp⟩ (fun hHeld => ?_)
      refine wpAnyH_take (i := 1) (oi := ⟨some 24, .load 27 (.tmp 3), 27, "law.go:39", #[], none⟩) (v := ?_) rfl (by kernel_rfl) (by kernel_rfl) (by kernel_rfl) (fun _ _ _ h => h) (Or.inl ⟨by rfl, ?_⟩) (by assumption) ?_
      rotate_left
      · (intro w_ hS_; (try dsimp only at hS_); go_simp; try with_reducible rfl)
      try simp only [Act.put, List.setIfInBounds_toArray, List.set_cons_zero, List.set_cons_succ]
      refine wpAnyH_take (i := 2) (oi := ⟨some 25, .load 3 (.tmp 8), 3, "law.go:39", #[], none⟩) (v := ?_) rfl (by kernel_rfl) (by kernel_rfl) (by kernel_rfl) (fun _ _ _ h => h) (Or.inl ⟨by rfl, ?_⟩) (by assumption) ?_
      rotate_left
      · (intro w_ hS_; (try dsimp only at hS_); go_simp; try with_reducible rfl)
      try simp only [Act.put, List.setIfInBounds_toArray, List.set_cons_zero, List.set_cons_succ]
      refine wpAnyH_take (i := 3) (oi := ⟨some 26, .indexAddr 27 (.tmp 24) (.tmp 25), 0, "law.go:39", #[⟨1, .data⟩, ⟨2, .data⟩], none⟩) (v := ?_) rfl (by kernel_rfl) (by kernel_rfl) (by kernel_rfl) (fun _ _ _ h => h) (Or.inl ⟨by rfl, ?_⟩) (by assumption) ?_
      rotate_left
      · (intro w_ hS_; (try dsimp only at hS_); go_simp; try with_reducible rfl)
      try simp only [Act.put, List.setIfInBounds_toArray, List.set_cons_zero, List.set_cons_succ]
      refine wpAnyH_take (i := 4) (oi := ⟨some 27, .load 26 (.tmp 26), 26, "law.go:39", #[⟨3, .data⟩], none⟩) (v := ?_) rfl (by kernel_rfl) (by kernel_rfl) (by kernel_rfl) (fun _ _ _ h => h) (Or.inl ⟨by rfl, ?_⟩) (by assumption) ?_
      rotate_left
      · (intro w_ hS_; (try dsimp only at hS_); go_simp; try with_reducible rfl)
      try simp only [Act.put, List.setIfInBounds_toArray, List.set_cons_zero, List.set_cons_succ]
      refine wpAnyH_ready (rs := [0]) (by kernel_rfl) (by simp) ?_
      refine AllReadyH.cons (o := ⟨some 23, .load 23 (.tmp 6), 23, "law.go:39", #[], none⟩) rfl (fun K hK => ?_) AllReadyH.nil
      (have hq_ := hHeld; (try dsimp only at hq_))
      obtain ⟨⟨PS_2_1, PS_2_1'⟩, ⟨PA_2_1, PA_2_1'⟩, ⟨PB_2_1, PB_2_1'⟩, ⟨PR_2_1, PR_2_1'⟩, ⟨PF_2_1, PF_2_1'⟩, ⟨PN_2_1, PN_2_1'⟩, ⟨PX_2_1, PX_2_1'⟩, al0_2_1, hF_2_1⟩ := hq_
      go_simp
      refine hK.out _ _ ?_ (fun hHeld => ?_)
      · (refine ⟨⟨by go_simp, by go_simp⟩, ⟨by go_simp, by go_simp⟩, ⟨by go_simp, by go_simp⟩, ⟨by go_simp, by go_simp⟩, ⟨by go_simp, by go_simp⟩, ⟨by go_simp, by go_simp⟩, ⟨by go_simp, by go_simp⟩, by first | assumption | (go_simp; done), by go_simp⟩)
      clear hK K
      try simp only [Act.put, List.setIfInBounds_toArray, List.set_cons_zero, List.set_cons_succ]
      refine wpAnyH_ready (rs := [5]) (by kernel_rfl) (by simp) ?_
      refine AllReadyH.cons (o := ⟨some 28, .call ⟨.value (.func 21), #[.tmp 23, .tmp 27], #[23, 26]⟩, 23, "law.go:39", #[⟨0, .data⟩, ⟨4, .data⟩], none⟩) rfl (fun K hK => ?_) AllReadyH.nil
      (have hq_ := hHeld; (try dsimp only at hq_))
      obtain ⟨⟨PS_2_2, PS_2_2'⟩, ⟨PA_2_2, PA_2_2'⟩, ⟨PB_2_2, PB_2_2'⟩, ⟨PR_2_2, PR_2_2'⟩, ⟨PF_2_2, PF_2_2'⟩, ⟨PN_2_2, PN_2_2'⟩, ⟨PX_2_2, PX_2_2'⟩, al0_2_2, hF_2_2⟩ := hq_
      go_simp
      refine (rstep_c _ _ _).mono ?_
      rintro e u2_2 ⟨rfl, hb⟩
      refine hK.out _ _ ?_ (fun hHeld => ?_)
      · exact ⟨⟨rk1 PS_2_2 hb, rk2 PS_2_2 PS_2_2' hb⟩, ⟨rk1 PA_2_2 hb, rk2 PA_2_2 PA_2_2' hb⟩, ⟨rk1 PB_2_2 hb, rk2 PB_2_2 PB_2_2' hb⟩, ⟨rk1 PR_2_2 hb, by rw [rk3 PR_2_2 hb]; exact PR_2_2'⟩, ⟨rk1 PF_2_2 hb, rk2 PF_2_2 PF_2_2' hb⟩, ⟨rk1 PN_2_2 hb, rk2 PN_2_2 PN_2_2' hb⟩, ⟨rk1 PX_2_2 hb, rk2 PX_2_2 PX_2_2' hb⟩, cell_low al0_2_2 hb, AsideP.low hF_2_2 hb⟩
      clear hK K
      try simp only [Act.put, List.setIfInBounds_toArray, List.set_cons_zero, List.set_cons_succ]
      refine wpAnyH_ready (rs := [6]) (by kernel_rfl) (by simp) ?_
      refine AllReadyH.cons (o := ⟨none, .store 23 (.tmp 6) (.tmp 28), 0, "law.go:39", #[⟨5, .data⟩, ⟨5, .chain⟩, ⟨0, .phase⟩, ⟨1, .phase⟩, ⟨2, .phase⟩, ⟨3, .phase⟩, ⟨4, .phase⟩, ⟨5, .phase⟩], none⟩) rfl (fun K hK => ?_) AllReadyH.nil
      (have hq_ := hHeld; (try dsimp only at hq_))
      obtain ⟨⟨PS_2_3, PS_2_3'⟩, ⟨PA_2_3, PA_2_3'⟩, ⟨PB_2_3, PB_2_3'⟩, ⟨PR_2_3, PR_2_3'⟩, ⟨PF_2_3, PF_2_3'⟩, ⟨PN_2_3, PN_2_3'⟩, ⟨PX_2_3, PX_2_3'⟩, al0_2_3, hF_2_3⟩ := hq_
      go_simp
      refine hK.out _ _ ?_ (fun hHeld => ?_)
      · (refine ⟨⟨by go_simp, by go_simp⟩, ⟨by go_simp, by go_simp⟩, ⟨by go_simp, by go_simp⟩, ⟨by go_simp, by go_simp⟩, ⟨by go_simp, by go_simp⟩, ⟨by go_simp, by go_simp⟩, ⟨by go_simp, by go_simp⟩, by first | assumption | (go_simp; done), by go_simp⟩)
      clear hK K
      try simp only [Act.put, List.setIfInBounds_toArray, List.set_cons_zero, List.set_cons_succ]
      refine wpAnyH_done (by kernel_rfl) ?_ _
      (try dsimp only at hHeld)
      go_split_ands
      gi_wp2_with fail
      refine wpIn_named (fun W_ => (isRow W_ w.heap.size ∧ rowAt W_ w.heap.size = (En (lst s l pre))) ∧ (isRow W_ (w.heap.size + 1) ∧ rowAt W_ (w.heap.size + 1) = #[.slice (some ad) n c]) ∧ (isRow W_ (w.heap.size + 1 + 1) ∧ rowAt W_ (w.heap.size + 1 + 1) = #[.bool false]) ∧ (isRow W_ W1.heap.size ∧ rowAt W_ W1.heap.size = (En (stp (lst s l pre) (rd l pre.length)))) ∧ (isRow W_ (W1.heap.size + 1) ∧ rowAt W_ (W1.heap.size + 1) = (En s)) ∧ (isRow W_ (W1.heap.size + 1 + 1) ∧ rowAt W_ (W1.heap.size + 1 + 1) = #[.int .i64 pre.length]) ∧ (isRow W_ W.heap.size ∧ rowAt W_ W.heap.size = (En (stp (lst s l pre) (rd l pre.length)))) ∧ W_.cell? (ad.add pre.length) = some (.int .i64 (rd l pre.length)) ∧ AsideP (In3 w.heap.size W1.heap.size (W1.heap.size + 1 + 1)) U W_) (by refine ⟨⟨by go_simp, by go_simp⟩, ⟨by go_simp, by go_simp⟩, ⟨by go_simp, by go_simp⟩, ⟨by go_simp, by go_simp⟩, ⟨by go_simp, by go_simp⟩, ⟨by go_simp, by go_simp⟩, ⟨by go_simp, by go_simp⟩, by first | assumption | (go_simp; done) | exact trivial, by go_simp⟩) ?_
      rintro v3 ⟨⟨S_3, S_3'⟩, ⟨A_3, A_3'⟩, ⟨B_3, B_3'⟩, ⟨R_3, R_3'⟩, ⟨F_3, F_3'⟩, ⟨N_3, N_3'⟩, ⟨X_3, X_3'⟩, al0_3, hB_3⟩
      have hz_3 : U.heap.size ≤ v3.heap.size := hB_3.size
      have hl_S_3 := isRow.lt S_3
      have ne_S_3_0 : ¬ w.heap.size = v3.heap.size := by omega
      have en_S_3_0 : ¬ v3.heap.size = w.heap.size := by omega
      have hl_A_3 := isRow.lt A_3
      have ne_A_3_0 : ¬ (w.heap.size + 1) = v3.heap.size := by omega
      have en_A_3_0 : ¬ v3.heap.size = (w.heap.size + 1) := by omega
      have hl_B_3 := isRow.lt B_3
      have ne_B_3_0 : ¬ (w.heap.size + 1 + 1) = v3.heap.size := by omega
      have en_B_3_0 : ¬ v3.heap.size = (w.heap.size + 1 + 1) := by omega
      have hl_R_3 := isRow.lt R_3
      have ne_R_3_0 : ¬ W1.heap.size = v3.heap.size := by omega
      have en_R_3_0 : ¬ v3.heap.size = W1.heap.size := by omega
      have hl_F_3 := isRow.lt F_3
      have ne_F_3_0 : ¬ (W1.heap.size + 1) = v3.heap.size := by omega
      have en_F_3_0 : ¬ v3.heap.size = (W1.heap.size + 1) := by omega
      have hl_N_3 := isRow.lt N_3
      have ne_N_3_0 : ¬ (W1.heap.size + 1 + 1) = v3.heap.size := by omega
      have en_N_3_0 : ¬ v3.heap.size = (W1.heap.size + 1 + 1) := by omega
      have hl_X_3 := isRow.lt X_3
      have ne_X_3_0 : ¬ W.heap.size = v3.heap.size := by omega
      have en_X_3_0 : ¬ v3.heap.size = W.heap.size := by omega
      refine wpIn_region_held (S := fun w' => (isRow w' w.heap.size ∧ (rowAt w' w.heap.size).size = 4) ∧ (isRow w' (w.heap.size + 1) ∧ rowAt w' (w.heap.size + 1) = #[.slice (some ad) n c]) ∧ (isRow w' (w.heap.size + 1 + 1) ∧ rowAt w' (w.heap.size + 1 + 1) = #[.bool false]) ∧ (isRow w' W1.heap.size ∧ rowAt w' W1.heap.size = (En (stp (lst s l pre) (rd l pre.length)))) ∧ (isRow w' (W1.heap.size + 1) ∧ rowAt w' (W1.heap.size + 1) = (En s)) ∧ (isRow w' (W1.heap.size + 1 + 1) ∧ rowAt w' (W1.heap.size + 1 + 1) = #[.int .i64 pre.length]) ∧ (isRow w' W.heap.size ∧ rowAt w' W.heap.size = (En (stp (lst s l pre) (rd l pre.length)))) ∧ w'.cell? (ad.add pre.length) = some (.int .i64 (rd l pre.length)) ∧ AsideP (In3 w.heap.size W1.heap.size (W1.heap.size + 1 + 1)) U w') (by kernel_rfl) (by kernel_rfl) (by rintro ⟨_, _, h_⟩; exact h_) ⟨⟨by go_simp, by go_simp⟩, ⟨by go_simp, by go_simp⟩, ⟨by go_simp, by go_simp⟩, ⟨by go_simp, by go_simp⟩, ⟨by go_simp, by go_simp⟩, ⟨by go_simp, by go_simp⟩, ⟨by go_simp, by go_simp⟩, by first | exact al0_3 | (go_simp; done), by go_simp⟩ (fun hHeld => ?_)
      refine wpAnyH_take (i := 1) (oi := ⟨some 30, .load 27 (.tmp 3), 27, "law.go:40", #[], none⟩) (v := ?_) rfl (by kernel_rfl) (by kernel_rfl) (by kernel_rfl) (fun _ _ _ h => h) (Or.inl ⟨by rfl, ?_⟩) (by assumption) ?_
      rotate_left
      · (intro w_ hS_; (try dsimp only at hS_); go_simp; try with_reducible rfl)
      try simp only [Act.put, List.setIfInBounds_toArray, List.set_cons_zero, List.set_cons_succ]
      refine wpAnyH_take (i := 2) (oi := ⟨some 31, .load 3 (.tmp 8), 3, "law.go:40", #[], none⟩) (v := ?_) rfl (by kernel_rfl) (by kernel_rfl) (by kernel_rfl) (fun _ _ _ h => h) (Or.inl ⟨by rfl, ?_⟩) (by assumption) ?_
      rotate_left
      · (intro w_ hS_; (try dsimp only at hS_); go_simp; try with_reducible rfl)
      try simp only [Act.put, List.setIfInBounds_toArray, List.set_cons_zero, List.set_cons_succ]
      refine wpAnyH_take (i := 3) (oi := ⟨some 32, .indexAddr 27 (.tmp 30) (.tmp 31), 0, "law.go:40", #[⟨1, .data⟩, ⟨2, .data⟩], none⟩) (v := ?_) rfl (by kernel_rfl) (by kernel_rfl) (by kernel_rfl) (fun _ _ _ h => h) (Or.inl ⟨by rfl, ?_⟩) (by assumption) ?_
      rotate_left
      · (intro w_ hS_; (try dsimp only at hS_); go_simp; try with_reducible rfl)
      try simp only [Act.put, List.setIfInBounds_toArray, List.set_cons_zero, List.set_cons_succ]
      refine wpAnyH_take (i := 4) (oi := ⟨some 33, .load 26 (.tmp 32), 26, "law.go:40", #[⟨3, .data⟩], none⟩) (v := ?_) rfl (by kernel_rfl) (by kernel_rfl) (by kernel_rfl) (fun _ _ _ h => h) (Or.inl ⟨by rfl, ?_⟩) (by assumption) ?_
      rotate_left
      · (intro w_ hS_; (try dsimp only at hS_); go_simp; try with_reducible rfl)
      try simp only [Act.put, List.setIfInBounds_toArray, List.set_cons_zero, List.set_cons_succ]
      refine wpAnyH_ready (rs := [0]) (by kernel_rfl) (by simp) ?_
      refine AllReadyH.cons (o := ⟨some 29, .load 23 (.tmp 2), 23, "law.go:40", #[], none⟩) rfl (fun K hK => ?_) AllReadyH.nil
      (have hq_ := hHeld; (try dsimp only at hq_))
      obtain ⟨⟨PS_4_1, PS_4_1'⟩, ⟨PA_4_1, PA_4_1'⟩, ⟨PB_4_1, PB_4_1'⟩, ⟨PR_4_1, PR_4_1'⟩, ⟨PF_4_1, PF_4_1'⟩, ⟨PN_4_1, PN_4_1'⟩, ⟨PX_4_1, PX_4_1'⟩, al0_4_1, hF_4_1⟩ := hq_
      go_simp
      refine hK.out _ _ ?_ (fun hHeld => ?_)
      · (refine ⟨⟨by go_simp, by go_simp⟩, ⟨by go_simp, by go_simp⟩, ⟨by go_simp, by go_simp⟩, ⟨by go_simp, by go_simp⟩, ⟨by go_simp, by go_simp⟩, ⟨by go_simp, by go_simp⟩, ⟨by go_simp, by go_simp⟩, by first | assumption | (go_simp; done), by go_simp⟩)
      clear hK K
      try simp only [Act.put, List.setIfInBounds_toArray, List.set_cons_zero, List.set_cons_succ]
      refine wpAnyH_ready (rs := [5]) (by kernel_rfl) (by simp) ?_
      refine AllReadyH.cons (o := ⟨some 34, .call ⟨.value (.func 11), #[.tmp 29, .tmp 33], #[23, 26]⟩, 23, "law.go:40", #[⟨0, .data⟩, ⟨4, .data⟩], none⟩) rfl (fun K hK => ?_) AllReadyH.nil
      (have hq_ := hHeld; (try dsimp only at hq_))
      obtain ⟨⟨PS_4_2, PS_4_2'⟩, ⟨PA_4_2, PA_4_2'⟩, ⟨PB_4_2, PB_4_2'⟩, ⟨PR_4_2, PR_4_2'⟩, ⟨PF_4_2, PF_4_2'⟩, ⟨PN_4_2, PN_4_2'⟩, ⟨PX_4_2, PX_4_2'⟩, al0_4_2, hF_4_2⟩ := hq_
      go_simp
      refine (step_c _ _ _).mono ?_
      rintro e u4_2 ⟨rfl, hb⟩
      refine hK.out _ _ ?_ (fun hHeld => ?_)
      · exact ⟨⟨rk1 PS_4_2 hb, by rw [rk3 PS_4_2 hb]; exact PS_4_2'⟩, ⟨rk1 PA_4_2 hb, rk2 PA_4_2 PA_4_2' hb⟩, ⟨rk1 PB_4_2 hb, rk2 PB_4_2 PB_4_2' hb⟩, ⟨rk1 PR_4_2 hb, rk2 PR_4_2 PR_4_2' hb⟩, ⟨rk1 PF_4_2 hb, rk2 PF_4_2 PF_4_2' hb⟩, ⟨rk1 PN_4_2 hb, rk2 PN_4_2 PN_4_2' hb⟩, ⟨rk1 PX_4_2 hb, rk2 PX_4_2 PX_4_2' hb⟩, cell_low al0_4_2 hb, AsideP.low hF_4_2 hb⟩
      clear hK K
      try simp only [Act.put, List.setIfInBounds_toArray, List.set_cons_zero, List.set_cons_succ]
      refine wpAnyH_ready (rs := [6]) (by kernel_rfl) (by simp) ?_
      refine AllReadyH.cons (o := ⟨none, .store 23 (.tmp 2) (.tmp 34), 0, "law.go:40", #[⟨5, .data⟩, ⟨5, .chain⟩, ⟨0, .phase⟩, ⟨1, .phase⟩, ⟨2, .phase⟩, ⟨3, .phase⟩, ⟨4, .phase⟩, ⟨5, .phase⟩], none⟩) rfl (fun K hK => ?_) AllReadyH.nil
      (have hq_ := hHeld; (try dsimp only at hq_))
      obtain ⟨⟨PS_4_3, PS_4_3'⟩, ⟨PA_4_3, PA_4_3'⟩, ⟨PB_4_3, PB_4_3'⟩, ⟨PR_4_3, PR_4_3'⟩, ⟨PF_4_3, PF_4_3'⟩, ⟨PN_4_3, PN_4_3'⟩, ⟨PX_4_3, PX_4_3'⟩, al0_4_3, hF_4_3⟩ := hq_
      go_simp
      refine hK.out _ _ ?_ (fun hHeld => ?_)
      · (refine ⟨⟨by go_simp, by go_simp⟩, ⟨by go_simp, by go_simp⟩, ⟨by go_simp, by go_simp⟩, ⟨by go_simp, by go_simp⟩, ⟨by go_simp, by go_simp⟩, ⟨by go_simp, by go_simp⟩, ⟨by go_simp, by go_simp⟩, by first | assumption | (go_simp; done), by go_simp⟩)
      clear hK K
      try simp only [Act.put, List.setIfInBounds_toArray, List.set_cons_zero, List.set_cons_succ]
      refine wpAnyH_done (by kernel_rfl) ?_ _
      (try dsimp only at hHeld)
      go_split_ands
      gi_wp2_with fail
      refine wpIn_named (fun W_ => (isRow W_ w.heap.size ∧ rowAt W_ w.heap.size = (En (stp (lst s l pre) (rd l pre.length)))) ∧ (isRow W_ (w.heap.size + 1) ∧ rowAt W_ (w.heap.size + 1) = #[.slice (some ad) n c]) ∧ (isRow W_ (w.heap.size + 1 + 1) ∧ rowAt W_ (w.heap.size + 1 + 1) = #[.bool false]) ∧ (isRow W_ W1.heap.size ∧ rowAt W_ W1.heap.size = (En (stp (lst s l pre) (rd l pre.length)))) ∧ (isRow W_ (W1.heap.size + 1) ∧ rowAt W_ (W1.heap.size + 1) = (En s)) ∧ (isRow W_ (W1.heap.size + 1 + 1) ∧ rowAt W_ (W1.heap.size + 1 + 1) = #[.int .i64 (pre.length + 1)]) ∧ (isRow W_ W.heap.size ∧ rowAt W_ W.heap.size = (En (stp (lst s l pre) (rd l pre.length)))) ∧ AsideP (In3 w.heap.size W1.heap.size (W1.heap.size + 1 + 1)) U W_) (by refine ⟨⟨by go_simp, by go_simp⟩, ⟨by go_simp, by go_simp⟩, ⟨by go_simp, by go_simp⟩, ⟨by go_simp, by go_simp⟩, ⟨by go_simp, by go_simp⟩, ⟨by go_simp, by go_simp⟩, ⟨by go_simp, by go_simp⟩, by go_simp⟩) ?_
      rintro v5 ⟨⟨S_5, S_5'⟩, ⟨A_5, A_5'⟩, ⟨B_5, B_5'⟩, ⟨R_5, R_5'⟩, ⟨F_5, F_5'⟩, ⟨N_5, N_5'⟩, ⟨X_5, X_5'⟩, hB_5⟩
      have hz_5 : U.heap.size ≤ v5.heap.size := hB_5.size
      have hl_S_5 := isRow.lt S_5
      have ne_S_5_0 : ¬ w.heap.size = v5.heap.size := by omega
      have en_S_5_0 : ¬ v5.heap.size = w.heap.size := by omega
      have hl_A_5 := isRow.lt A_5
      have ne_A_5_0 : ¬ (w.heap.size + 1) = v5.heap.size := by omega
      have en_A_5_0 : ¬ v5.heap.size = (w.heap.size + 1) := by omega
      have hl_B_5 := isRow.lt B_5
      have ne_B_5_0 : ¬ (w.heap.size + 1 + 1) = v5.heap.size := by omega
      have en_B_5_0 : ¬ v5.heap.size = (w.heap.size + 1 + 1) := by omega
      have hl_R_5 := isRow.lt R_5
      have ne_R_5_0 : ¬ W1.heap.size = v5.heap.size := by omega
      have en_R_5_0 : ¬ v5.heap.size = W1.heap.size := by omega
      have hl_F_5 := isRow.lt F_5
      have ne_F_5_0 : ¬ (W1.heap.size + 1) = v5.heap.size := by omega
      have en_F_5_0 : ¬ v5.heap.size = (W1.heap.size + 1) := by omega
      have hl_N_5 := isRow.lt N_5
      have ne_N_5_0 : ¬ (W1.heap.size + 1 + 1) = v5.heap.size := by omega
      have en_N_5_0 : ¬ v5.heap.size = (W1.heap.size + 1 + 1) := by omega
      have hl_X_5 := isRow.lt X_5
      have ne_X_5_0 : ¬ W.heap.size = v5.heap.size := by omega
      have en_X_5_0 : ¬ v5.heap.size = W.heap.size := by omega
      refine wpIn_region_held (S := fun w' => isRow w' w.heap.size ∧ rowAt w' w.heap.size = (En (stp (lst s l pre) (rd l pre.length))) ∧ isRow w' (w.heap.size + 1) ∧ rowAt w' (w.heap.size + 1) = #[.slice (some ad) n c] ∧ isRow w' (w.heap.size + 1 + 1) ∧ rowAt w' (w.heap.size + 1 + 1) = #[.bool false] ∧ isRow w' W1.heap.size ∧ rowAt w' W1.heap.size = (En (stp (lst s l pre) (rd l pre.length))) ∧ isRow w' (W1.heap.size + 1) ∧ rowAt w' (W1.heap.size + 1) = (En s) ∧ isRow w' (W1.heap.size + 1 + 1) ∧ rowAt w' (W1.heap.size + 1 + 1) = #[.int .i64 (pre.length + 1)] ∧ isRow w' W.heap.size ∧ rowAt w' W.heap.size = (En (stp (lst s l pre) (rd l pre.length))) ∧ AsideP (In3 w.heap.size W1.heap.size (W1.heap.size + 1 + 1)) U w') (by kernel_rfl) (by kernel_rfl) (by rintro ⟨_, _, h_⟩; exact h_) ⟨S_5, S_5', A_5, A_5', B_5, B_5', R_5, R_5', F_5, F_5', N_5, N_5', X_5, X_5', by go_simp⟩ (fun hHeld => ?_)
      refine wpAnyH_take (i := 0) (oi := ⟨some 37, .load 23 (.tmp 9), 23, "law.go:42", #[], none⟩) (v := ?_) rfl (by kernel_rfl) (by kernel_rfl) (by kernel_rfl) (fun _ _ _ h => h) (Or.inl ⟨by rfl, ?_⟩) (by assumption) ?_
      rotate_left
      · (intro w_ hS_; (try dsimp only at hS_); go_simp; try with_reducible rfl)
      try simp only [Act.put, List.setIfInBounds_toArray, List.set_cons_zero, List.set_cons_succ]
      refine wpAnyH_take (i := 1) (oi := ⟨some 38, .load 23 (.tmp 6), 23, "law.go:42", #[], none⟩) (v := ?_) rfl (by kernel_rfl) (by kernel_rfl) (by kernel_rfl) (fun _ _ _ h => h) (Or.inl ⟨by rfl, ?_⟩) (by assumption) ?_
      rotate_left
      · (intro w_ hS_; (try dsimp only at hS_); go_simp; try with_reducible rfl)
      try simp only [Act.put, List.setIfInBounds_toArray, List.set_cons_zero, List.set_cons_succ]
      refine wpAnyH_take (i := 2) (oi := ⟨some 39, .binOp .neq 23 (.tmp 37) (.tmp 38) 23, 4, "law.go:42", #[⟨0, .data⟩, ⟨1, .data⟩], none⟩) (v := ?_) rfl (by kernel_rfl) (by kernel_rfl) (by kernel_rfl) (fun _ _ _ h => h) (Or.inl ⟨by rfl, ?_⟩) (by assumption) ?_
      rotate_left
      · (intro w_ hS_; (try dsimp only at hS_); go_simp; try with_reducible rfl)
      try simp only [Act.put, List.setIfInBounds_toArray, List.set_cons_zero, List.set_cons_succ]
      refine wpAnyH_take (i := 3) (oi := ⟨some 40, .move (.tmp 39), 4, "law.go:42", #[⟨2, .data⟩], none⟩) (v := ?_) rfl (by kernel_rfl) (by kernel_rfl) (by kernel_rfl) (fun _ _ _ h => h) (Or.inl ⟨by rfl, ?_⟩) (by assumption) ?_
      rotate_left
      · (intro w_ hS_; (try dsimp only at hS_); go_simp; try with_reducible rfl)
      try simp only [Act.put, List.setIfInBounds_toArray, List.set_cons_zero, List.set_cons_succ]
      refine wpAnyH_take (i := 4) (oi := ⟨some 41, .load 23 (.tmp 2), 23, "law.go:42", #[⟨3, .guard⟩], some (3, false)⟩) (v := ?_) rfl (by kernel_rfl) (by kernel_rfl) (by kernel_rfl) (fun _ _ _ h => h) (Or.inl ⟨by rfl, ?_⟩) (by assumption) ?_
      rotate_left
      · (intro w_ hS_; (try dsimp only at hS_); go_simp; try with_reducible rfl)
      try simp only [Act.put, List.setIfInBounds_toArray, List.set_cons_zero, List.set_cons_succ]
      refine wpAnyH_take (i := 5) (oi := ⟨some 42, .load 23 (.tmp 6), 23, "law.go:42", #[⟨3, .guard⟩], some (3, false)⟩) (v := ?_) rfl (by kernel_rfl) (by kernel_rfl) (by kernel_rfl) (fun _ _ _ h => h) (Or.inl ⟨by rfl, ?_⟩) (by assumption) ?_
      rotate_left
      · (intro w_ hS_; (try dsimp only at hS_); go_simp; try with_reducible rfl)
      try simp only [Act.put, List.setIfInBounds_toArray, List.set_cons_zero, List.set_cons_succ]
      refine wpAnyH_take (i := 6) (oi := ⟨some 43, .binOp .neq 23 (.tmp 41) (.tmp 42) 23, 4, "law.go:42", #[⟨4, .data⟩, ⟨5, .data⟩, ⟨3, .guard⟩], some (3, false)⟩) (v := ?_) rfl (by kernel_rfl) (by kernel_rfl) (by kernel_rfl) (fun _ _ _ h => h) (Or.inl ⟨by rfl, ?_⟩) (by assumption) ?_
      rotate_left
      · (intro w_ hS_; (try dsimp only at hS_); go_simp; try with_reducible rfl)
      try simp only [Act.put, List.setIfInBounds_toArray, List.set_cons_zero, List.set_cons_succ]
      refine wpAnyH_take (i := 7) (oi := ⟨some 44, .pick (.tmp 40) (.const (.bool true)) (.tmp 43), 4, "law.go:42", #[⟨3, .data⟩, ⟨6, .data⟩], none⟩) (v := ?_) rfl (by kernel_rfl) (by kernel_rfl) (by kernel_rfl) (fun _ _ _ h => h) (Or.inl ⟨by rfl, ?_⟩) (by assumption) ?_
      rotate_left
      · (intro w_ hS_; (try dsimp only at hS_); go_simp; try with_reducible rfl)
      try simp only [Act.put, List.setIfInBounds_toArray, List.set_cons_zero, List.set_cons_succ]
      refine wpAnyH_take (i := 8) (oi := ⟨some 45, .move (.tmp 44), 4, "law.go:42", #[⟨7, .data⟩, ⟨3, .chain⟩], none⟩) (v := ?_) rfl (by kernel_rfl) (by kernel_rfl) (by kernel_rfl) (fun _ _ _ h => h) (Or.inl ⟨by rfl, ?_⟩) (by assumption) ?_
      rotate_left
      · (intro w_ hS_; (try dsimp only at hS_); go_simp; try with_reducible rfl)
      try simp only [Act.put, List.setIfInBounds_toArray, List.set_cons_zero, List.set_cons_succ]
      refine wpAnyH_take (i := 9) (oi := ⟨some 46, .load 23 (.tmp 9), 23, "law.go:42", #[⟨8, .guard⟩], some (8, false)⟩) (v := ?_) rfl (by kernel_rfl) (by kernel_rfl) (by kernel_rfl) (fun _ _ _ h => h) (Or.inl ⟨by rfl, ?_⟩) (by assumption) ?_
      rotate_left
      · (intro w_ hS_; (try dsimp only at hS_); go_simp; try with_reducible rfl)
      try simp only [Act.put, List.setIfInBounds_toArray, List.set_cons_zero, List.set_cons_succ]
      refine wpAnyH_take (i := 11) (oi := ⟨some 48, .load 23 (.tmp 6), 23, "law.go:42", #[⟨8, .guard⟩], some (8, false)⟩) (v := ?_) rfl (by kernel_rfl) (by kernel_rfl) (by kernel_rfl) (fun _ _ _ h => h) (Or.inl ⟨by rfl, ?_⟩) (by assumption) ?_
      rotate_left
      · (intro w_ hS_; (try dsimp only at hS_); go_simp; try with_reducible rfl)
      try simp only [Act.put, List.setIfInBounds_toArray, List.set_cons_zero, List.set_cons_succ]
      refine wpAnyH_ready (rs := [10]) (by kernel_rfl) (by simp) ?_
      refine AllReadyH.cons (o := ⟨some 47, .call ⟨.value (.func 13), #[.tmp 46], #[23]⟩, 4, "law.go:42", #[⟨9, .data⟩, ⟨8, .chain⟩, ⟨8, .guard⟩], some (8, false)⟩) rfl (fun K hK => ?_) AllReadyH.nil
      go_simp
      (have hq_ := hHeld; (try dsimp only at hq_); go_split_ands)
      refine (pend_c _ _).mono ?_
      rintro e w4 ⟨rfl, hb⟩
      refine hK.out _ _ ?_ (fun hHeld => ?_)
      · (go_split_ands; exact ⟨rk1 (by assumption) hb, rk2 (by assumption) (by assumption) hb, rk1 (by assumption) hb, rk2 (by assumption) (by assumption) hb, rk1 (by assumption) hb, rk2 (by assumption) (by assumption) hb, rk1 (by assumption) hb, rk2 (by assumption) (by assumption) hb, rk1 (by assumption) hb, rk2 (by assumption) (by assumption) hb, rk1 (by assumption) hb, rk2 (by assumption) (by assumption) hb, rk1 (by assumption) hb, rk2 (by assumption) (by assumption) hb, AsideP.low (by assumption) hb⟩)
      clear hK K
      try simp only [Act.put, List.setIfInBounds_toArray, List.set_cons_zero, List.set_cons_succ]
      refine wpAnyH_ready (rs := [12]) (by kernel_rfl) (by simp) ?_
      refine AllReadyH.cons (o := ⟨some 49, .call ⟨.value (.func 22), #[.tmp 48], #[23]⟩, 4, "law.go:42", #[⟨11, .data⟩, ⟨10, .chain⟩, ⟨8, .guard⟩], some (8, false)⟩) rfl (fun K hK => ?_) AllReadyH.nil
      go_simp
      (have hq_ := hHeld; (try dsimp only at hq_); go_split_ands)
      refine (rpend_c _ _).mono ?_
      rintro e w4 ⟨rfl, hb⟩
      refine hK.out _ _ ?_ (fun hHeld => ?_)
      · (go_split_ands; exact ⟨rk1 (by assumption) hb, rk2 (by assumption) (by assumption) hb, rk1 (by assumption) hb, rk2 (by assumption) (by assumption) hb, rk1 (by assumption) hb, rk2 (by assumption) (by assumption) hb, rk1 (by assumption) hb, rk2 (by assumption) (by assumption) hb, rk1 (by assumption) hb, rk2 (by assumption) (by assumption) hb, rk1 (by assumption) hb, rk2 (by assumption) (by assumption) hb, rk1 (by assumption) hb, rk2 (by assumption) (by assumption) hb, AsideP.low (by assumption) hb⟩)
      clear hK K
      try simp only [Act.put, List.setIfInBounds_toArray, List.set_cons_zero, List.set_cons_succ]
      refine wpAnyH_take (i := 13) (oi := ⟨some 50, .binOp .neq 4 (.tmp 47) (.tmp 49) 4, 4, "law.go:42", #[⟨10, .data⟩, ⟨12, .data⟩, ⟨8, .guard⟩], some (8, false)⟩) (v := ?_) rfl (by kernel_rfl) (by kernel_rfl) (by kernel_rfl) (fun _ _ _ h => h) (Or.inl ⟨by rfl, ?_⟩) (by assumption) ?_
      rotate_left
      · (intro w_ hS_; (try dsimp only at hS_); go_simp; try with_reducible rfl)
      try simp only [Act.put, List.setIfInBounds_toArray, List.set_cons_zero, List.set_cons_succ]
      refine wpAnyH_take (i := 14) (oi := ⟨some 51, .pick (.tmp 45) (.const (.bool true)) (.tmp 50), 4, "law.go:42", #[⟨8, .data⟩, ⟨13, .data⟩], none⟩) (v := ?_) rfl (by kernel_rfl) (by kernel_rfl) (by kernel_rfl) (fun _ _ _ h => h) (Or.inl ⟨by rfl, ?_⟩) (by assumption) ?_
      rotate_left
      · (intro w_ hS_; (try dsimp only at hS_); go_simp; try with_reducible rfl)
      try simp only [Act.put, List.setIfInBounds_toArray, List.set_cons_zero, List.set_cons_succ]
      refine wpAnyH_take (i := 15) (oi := ⟨some 52, .move (.tmp 51), 4, "law.go:42", #[⟨14, .data⟩, ⟨12, .chain⟩], none⟩) (v := ?_) rfl (by kernel_rfl) (by kernel_rfl) (by kernel_rfl) (fun _ _ _ h => h) (Or.inl ⟨by rfl, ?_⟩) (by assumption) ?_
      rotate_left
      · (intro w_ hS_; (try dsimp only at hS_); go_simp; try with_reducible rfl)
      try simp only [Act.put, List.setIfInBounds_toArray, List.set_cons_zero, List.set_cons_succ]
      refine wpAnyH_take (i := 16) (oi := ⟨some 53, .load 23 (.tmp 9), 23, "law.go:42", #[⟨15, .guard⟩], some (15, false)⟩) (v := ?_) rfl (by kernel_rfl) (by kernel_rfl) (by kernel_rfl) (fun _ _ _ h => h) (Or.inl ⟨by rfl, ?_⟩) (by assumption) ?_
      rotate_left
      · (intro w_ hS_; (try dsimp only at hS_); go_simp; try with_reducible rfl)
      try simp only [Act.put, List.setIfInBounds_toArray, List.set_cons_zero, List.set_cons_succ]
      refine wpAnyH_take (i := 18) (oi := ⟨some 55, .load 23 (.tmp 6), 23, "law.go:42", #[⟨15, .guard⟩], some (15, false)⟩) (v := ?_) rfl (by kernel_rfl) (by kernel_rfl) (by kernel_rfl) (fun _ _ _ h => h) (Or.inl ⟨by rfl, ?_⟩) (by assumption) ?_
      rotate_left
      · (intro w_ hS_; (try dsimp only at hS_); go_simp; try with_reducible rfl)
      try simp only [Act.put, List.setIfInBounds_toArray, List.set_cons_zero, List.set_cons_succ]
      refine wpAnyH_ready (rs := [17]) (by kernel_rfl) (by simp) ?_
      refine AllReadyH.cons (o := ⟨some 54, .call ⟨.value (.func 12), #[.tmp 53], #[23]⟩, 4, "law.go:42", #[⟨16, .data⟩, ⟨15, .chain⟩, ⟨15, .guard⟩], some (15, false)⟩) rfl (fun K hK => ?_) AllReadyH.nil
      go_simp
      (have hq_ := hHeld; (try dsimp only at hq_); go_split_ands)
      refine (ready_c _ _).mono ?_
      rintro e w4 ⟨rfl, hb⟩
      refine hK.out _ _ ?_ (fun hHeld => ?_)
      · (go_split_ands; exact ⟨rk1 (by assumption) hb, rk2 (by assumption) (by assumption) hb, rk1 (by assumption) hb, rk2 (by assumption) (by assumption) hb, rk1 (by assumption) hb, rk2 (by assumption) (by assumption) hb, rk1 (by assumption) hb, rk2 (by assumption) (by assumption) hb, rk1 (by assumption) hb, rk2 (by assumption) (by assumption) hb, rk1 (by assumption) hb, rk2 (by assumption) (by assumption) hb, rk1 (by assumption) hb, rk2 (by assumption) (by assumption) hb, AsideP.low (by assumption) hb⟩)
      clear hK K
      try simp only [Act.put, List.setIfInBounds_toArray, List.set_cons_zero, List.set_cons_succ]
      refine wpAnyH_ready (rs := [19]) (by kernel_rfl) (by simp) ?_
      refine AllReadyH.cons (o := ⟨some 56, .call ⟨.value (.func 23), #[.tmp 55], #[23]⟩, 4, "law.go:42", #[⟨18, .data⟩, ⟨17, .chain⟩, ⟨15, .guard⟩], some (15, false)⟩) rfl (fun K hK => ?_) AllReadyH.nil
      go_simp
      (have hq_ := hHeld; (try dsimp only at hq_); go_split_ands)
      refine (rready_c _ _).mono ?_
      rintro e w4 ⟨rfl, hb⟩
      refine hK.out _ _ ?_ (fun hHeld => ?_)
      · (go_split_ands; exact ⟨rk1 (by assumption) hb, rk2 (by assumption) (by assumption) hb, rk1 (by assumption) hb, rk2 (by assumption) (by assumption) hb, rk1 (by assumption) hb, rk2 (by assumption) (by assumption) hb, rk1 (by assumption) hb, rk2 (by assumption) (by assumption) hb, rk1 (by assumption) hb, rk2 (by assumption) (by assumption) hb, rk1 (by assumption) hb, rk2 (by assumption) (by assumption) hb, rk1 (by assumption) hb, rk2 (by assumption) (by assumption) hb, AsideP.low (by assumption) hb⟩)
      clear hK K
      try simp only [Act.put, List.setIfInBounds_toArray, List.set_cons_zero, List.set_cons_succ]
      refine wpAnyH_take (i := 20) (oi := ⟨some 57, .binOp .neq 4 (.tmp 54) (.tmp 56) 4, 4, "law.go:42", #[⟨17, .data⟩, ⟨19, .data⟩, ⟨15, .guard⟩], some (15, false)⟩) (v := ?_) rfl (by kernel_rfl) (by kernel_rfl) (by kernel_rfl) (fun _ _ _ h => h) (Or.inl ⟨by rfl, ?_⟩) (by assumption) ?_
      rotate_left
      · (intro w_ hS_; (try dsimp only at hS_); go_simp; try with_reducible rfl)
      try simp only [Act.put, List.setIfInBounds_toArray, List.set_cons_zero, List.set_cons_succ]
      refine wpAnyH_take (i := 21) (oi := ⟨some 58, .pick (.tmp 52) (.const (.bool true)) (.tmp 57), 4, "law.go:42", #[⟨15, .data⟩, ⟨20, .data⟩], none⟩) (v := ?_) rfl (by kernel_rfl) (by kernel_rfl) (by kernel_rfl) (fun _ _ _ h => h) (Or.inl ⟨by rfl, ?_⟩) (by assumption) ?_
      rotate_left
      · (intro w_ hS_; (try dsimp only at hS_); go_simp; try with_reducible rfl)
      try simp only [Act.put, List.setIfInBounds_toArray, List.set_cons_zero, List.set_cons_succ]
      refine wpAnyH_take (i := 22) (oi := ⟨some 59, .move (.tmp 58), 4, "law.go:42", #[⟨21, .data⟩, ⟨19, .chain⟩], none⟩) (v := ?_) rfl (by kernel_rfl) (by kernel_rfl) (by kernel_rfl) (fun _ _ _ h => h) (Or.inl ⟨by rfl, ?_⟩) (by assumption) ?_
      rotate_left
      · (intro w_ hS_; (try dsimp only at hS_); go_simp; try with_reducible rfl)
      try simp only [Act.put, List.setIfInBounds_toArray, List.set_cons_zero, List.set_cons_succ]
      refine wpAnyH_take (i := 23) (oi := ⟨some 60, .load 23 (.tmp 9), 23, "law.go:42", #[⟨22, .guard⟩], some (22, false)⟩) (v := ?_) rfl (by kernel_rfl) (by kernel_rfl) (by kernel_rfl) (fun _ _ _ h => h) (Or.inl ⟨by rfl, ?_⟩) (by assumption) ?_
      rotate_left
      · (intro w_ hS_; (try dsimp only at hS_); go_simp; try with_reducible rfl)
      try simp only [Act.put, List.setIfInBounds_toArray, List.set_cons_zero, List.set_cons_succ]
      refine wpAnyH_take (i := 25) (oi := ⟨some 62, .load 23 (.tmp 6), 23, "law.go:42", #[⟨22, .guard⟩], some (22, false)⟩) (v := ?_) rfl (by kernel_rfl) (by kernel_rfl) (by kernel_rfl) (fun _ _ _ h => h) (Or.inl ⟨by rfl, ?_⟩) (by assumption) ?_
      rotate_left
      · (intro w_ hS_; (try dsimp only at hS_); go_simp; try with_reducible rfl)
      try simp only [Act.put, List.setIfInBounds_toArray, List.set_cons_zero, List.set_cons_succ]
      refine wpAnyH_ready (rs := [24]) (by kernel_rfl) (by simp) ?_
      refine AllReadyH.cons (o := ⟨some 61, .call ⟨.value (.func 14), #[.tmp 60], #[23]⟩, 3, "law.go:42", #[⟨23, .data⟩, ⟨22, .chain⟩, ⟨22, .guard⟩], some (22, false)⟩) rfl (fun K hK => ?_) AllReadyH.nil
      go_simp
      (have hq_ := hHeld; (try dsimp only at hq_); go_split_ands)
      refine (phase_c _ _).mono ?_
      rintro e w4 ⟨rfl, hb⟩
      refine hK.out _ _ ?_ (fun hHeld => ?_)
      · (go_split_ands; exact ⟨rk1 (by assumption) hb, rk2 (by assumption) (by assumption) hb, rk1 (by assumption) hb, rk2 (by assumption) (by assumption) hb, rk1 (by assumption) hb, rk2 (by assumption) (by assumption) hb, rk1 (by assumption) hb, rk2 (by assumption) (by assumption) hb, rk1 (by assumption) hb, rk2 (by assumption) (by assumption) hb, rk1 (by assumption) hb, rk2 (by assumption) (by assumption) hb, rk1 (by assumption) hb, rk2 (by assumption) (by assumption) hb, AsideP.low (by assumption) hb⟩)
      clear hK K
      try simp only [Act.put, List.setIfInBounds_toArray, List.set_cons_zero, List.set_cons_succ]
      refine wpAnyH_ready (rs := [26]) (by kernel_rfl) (by simp) ?_
      refine AllReadyH.cons (o := ⟨some 63, .call ⟨.value (.func 19), #[.tmp 62], #[23]⟩, 3, "law.go:42", #[⟨25, .data⟩, ⟨24, .chain⟩, ⟨22, .guard⟩], some (22, false)⟩) rfl (fun K hK => ?_) AllReadyH.nil
      go_simp
      (have hq_ := hHeld; (try dsimp only at hq_); go_split_ands)
      refine (rphase_c _ _).mono ?_
      rintro e w4 ⟨rfl, hb⟩
      refine hK.out _ _ ?_ (fun hHeld => ?_)
      · (go_split_ands; exact ⟨rk1 (by assumption) hb, rk2 (by assumption) (by assumption) hb, rk1 (by assumption) hb, rk2 (by assumption) (by assumption) hb, rk1 (by assumption) hb, rk2 (by assumption) (by assumption) hb, rk1 (by assumption) hb, rk2 (by assumption) (by assumption) hb, rk1 (by assumption) hb, rk2 (by assumption) (by assumption) hb, rk1 (by assumption) hb, rk2 (by assumption) (by assumption) hb, rk1 (by assumption) hb, rk2 (by assumption) (by assumption) hb, AsideP.low (by assumption) hb⟩)
      clear hK K
      try simp only [Act.put, List.setIfInBounds_toArray, List.set_cons_zero, List.set_cons_succ]
      refine wpAnyH_take (i := 27) (oi := ⟨some 64, .binOp .neq 3 (.tmp 61) (.tmp 63) 3, 4, "law.go:42", #[⟨24, .data⟩, ⟨26, .data⟩, ⟨22, .guard⟩], some (22, false)⟩) (v := ?_) rfl (by kernel_rfl) (by kernel_rfl) (by kernel_rfl) (fun _ _ _ h => h) (Or.inl ⟨by rfl, ?_⟩) (by assumption) ?_
      rotate_left
      · (intro w_ hS_; (try dsimp only at hS_); go_simp; try with_reducible rfl)
      try simp only [Act.put, List.setIfInBounds_toArray, List.set_cons_zero, List.set_cons_succ]
      refine wpAnyH_take (i := 28) (oi := ⟨some 65, .pick (.tmp 59) (.const (.bool true)) (.tmp 64), 4, "law.go:42", #[⟨22, .data⟩, ⟨27, .data⟩], none⟩) (v := ?_) rfl (by kernel_rfl) (by kernel_rfl) (by kernel_rfl) (fun _ _ _ h => h) (Or.inl ⟨by rfl, ?_⟩) (by assumption) ?_
      rotate_left
      · (intro w_ hS_; (try dsimp only at hS_); go_simp; try with_reducible rfl)
      try simp only [Act.put, List.setIfInBounds_toArray, List.set_cons_zero, List.set_cons_succ]
      refine wpAnyH_take (i := 29) (oi := ⟨some 66, .move (.tmp 65), 4, "law.go:42", #[⟨28, .data⟩, ⟨26, .chain⟩], none⟩) (v := ?_) rfl (by kernel_rfl) (by kernel_rfl) (by kernel_rfl) (fun _ _ _ h => h) (Or.inl ⟨by rfl, ?_⟩) (by assumption) ?_
      rotate_left
      · (intro w_ hS_; (try dsimp only at hS_); go_simp; try with_reducible rfl)
      try simp only [Act.put, List.setIfInBounds_toArray, List.set_cons_zero, List.set_cons_succ]
      refine wpAnyH_take (i := 30) (oi := ⟨some 67, .load 23 (.tmp 9), 23, "law.go:42", #[⟨29, .guard⟩], some (29, false)⟩) (v := ?_) rfl (by kernel_rfl) (by kernel_rfl) (by kernel_rfl) (fun _ _ _ h => h) (Or.inl ⟨by rfl, ?_⟩) (by assumption) ?_
      rotate_left
      · (intro w_ hS_; (try dsimp only at hS_); go_simp; try with_reducible rfl)
      try simp only [Act.put, List.setIfInBounds_toArray, List.set_cons_zero, List.set_cons_succ]
      refine wpAnyH_take (i := 32) (oi := ⟨some 69, .load 23 (.tmp 6), 23, "law.go:42", #[⟨29, .guard⟩], some (29, false)⟩) (v := ?_) rfl (by kernel_rfl) (by kernel_rfl) (by kernel_rfl) (fun _ _ _ h => h) (Or.inl ⟨by rfl, ?_⟩) (by assumption) ?_
      rotate_left
      · (intro w_ hS_; (try dsimp only at hS_); go_simp; try with_reducible rfl)
      try simp only [Act.put, List.setIfInBounds_toArray, List.set_cons_zero, List.set_cons_succ]
      refine wpAnyH_ready (rs := [31]) (by kernel_rfl) (by simp) ?_
      refine AllReadyH.cons (o := ⟨some 68, .call ⟨.value (.func 17), #[.tmp 67], #[23]⟩, 9, "law.go:42", #[⟨30, .data⟩, ⟨29, .chain⟩, ⟨29, .guard⟩], some (29, false)⟩) rfl (fun K hK => ?_) AllReadyH.nil
      go_simp
      (have hq_ := hHeld; (try dsimp only at hq_); go_split_ands)
      refine (text_c _ _).mono ?_
      rintro e w4 ⟨rfl, hb⟩
      refine hK.out _ _ ?_ (fun hHeld => ?_)
      · (go_split_ands; exact ⟨rk1 (by assumption) hb, rk2 (by assumption) (by assumption) hb, rk1 (by assumption) hb, rk2 (by assumption) (by assumption) hb, rk1 (by assumption) hb, rk2 (by assumption) (by assumption) hb, rk1 (by assumption) hb, rk2 (by assumption) (by assumption) hb, rk1 (by assumption) hb, rk2 (by assumption) (by assumption) hb, rk1 (by assumption) hb, rk2 (by assumption) (by assumption) hb, rk1 (by assumption) hb, rk2 (by assumption) (by assumption) hb, AsideP.low (by assumption) hb⟩)
      clear hK K
      try simp only [Act.put, List.setIfInBounds_toArray, List.set_cons_zero, List.set_cons_succ]
      refine wpAnyH_ready (rs := [33]) (by kernel_rfl) (by simp) ?_
      refine AllReadyH.cons (o := ⟨some 70, .call ⟨.value (.func 24), #[.tmp 69], #[23]⟩, 9, "law.go:42", #[⟨32, .data⟩, ⟨31, .chain⟩, ⟨29, .guard⟩], some (29, false)⟩) rfl (fun K hK => ?_) AllReadyH.nil
      go_simp
      (have hq_ := hHeld; (try dsimp only at hq_); go_split_ands)
      refine (rtext_c _ _).mono ?_
      rintro e w4 ⟨rfl, hb⟩
      refine hK.out _ _ ?_ (fun hHeld => ?_)
      · (go_split_ands; exact ⟨rk1 (by assumption) hb, rk2 (by assumption) (by assumption) hb, rk1 (by assumption) hb, rk2 (by assumption) (by assumption) hb, rk1 (by assumption) hb, rk2 (by assumption) (by assumption) hb, rk1 (by assumption) hb, rk2 (by assumption) (by assumption) hb, rk1 (by assumption) hb, rk2 (by assumption) (by assumption) hb, rk1 (by assumption) hb, rk2 (by assumption) (by assumption) hb, rk1 (by assumption) hb, rk2 (by assumption) (by assumption) hb, AsideP.low (by assumption) hb⟩)
      clear hK K
      try simp only [Act.put, List.setIfInBounds_toArray, List.set_cons_zero, List.set_cons_succ]
      refine wpAnyH_take (i := 34) (oi := ⟨some 71, .binOp .neq 9 (.tmp 68) (.tmp 70) 9, 4, "law.go:42", #[⟨31, .data⟩, ⟨33, .data⟩, ⟨29, .guard⟩], some (29, false)⟩) (v := ?_) rfl (by kernel_rfl) (by kernel_rfl) (by kernel_rfl) (fun _ _ _ h => h) (Or.inl ⟨by rfl, ?_⟩) (by assumption) ?_
      rotate_left
      · (intro w_ hS_; (try dsimp only at hS_); go_simp; try with_reducible rfl)
      try simp only [Act.put, List.setIfInBounds_toArray, List.set_cons_zero, List.set_cons_succ]
      refine wpAnyH_take (i := 35) (oi := ⟨some 72, .pick (.tmp 66) (.const (.bool true)) (.tmp 71), 4, "law.go:42", #[⟨29, .data⟩, ⟨34, .data⟩], none⟩) (v := ?_) rfl (by kernel_rfl) (by kernel_rfl) (by kernel_rfl) (fun _ _ _ h => h) (Or.inl ⟨by rfl, ?_⟩) (by assumption) ?_
      rotate_left
      · (intro w_ hS_; (try dsimp only at hS_); go_simp; try with_reducible rfl)
      try simp only [Act.put, List.setIfInBounds_toArray, List.set_cons_zero, List.set_cons_succ]
      refine wpAnyH_done (by kernel_rfl) ?_ _
      (try dsimp only at hHeld)
      go_split_ands
      gi_wp2_with fail
      refine ⟨KeepsFrom.aside (P := In3 w.heap.size W1.heap.size (W1.heap.size + 1 + 1)) (by assumption) (fun k hk => by unfold In3 at hk; omega), KeepC.aside (by assumption), ?_⟩
      dsimp only
      rw [hq, hlenI]
      exact ⟨⟨by assumption, by assumption⟩, ⟨by assumption, by assumption⟩, ⟨by assumption, by assumption⟩, ⟨by assumption, by assumption⟩, ⟨by assumption, by assumption⟩, ⟨by assumption, by assumption⟩, AsideP.below (P := In3 w.heap.size W1.heap.size (W1.heap.size + 1 + 1)) (by assumption) hBU (fun k hk => by unfold In3 at hk; omega) hBU.size⟩
    case done =>
      rintro D W hD ⟨⟨c1, c1'⟩, ⟨c2, c2'⟩, ⟨c3, c3'⟩, ⟨c4, c4'⟩, ⟨c5, c5'⟩, ⟨c6, c6'⟩, hBW⟩ hK
      rw [lst_full] at c1' c4'
      rw [sts_len] at c6'
      clear y1 y2 y3 y4 y5 y6 y7 y8
      have eD : ¬ D = (w.heap.size + 1 + 1) := by omega
      have hDw : w.heap.size ≤ D := by omega
      have pn01 : ¬ w.heap.size = w.heap.size + 1 := by omega
      have pn02 : ¬ w.heap.size = w.heap.size + 1 + 1 := by omega
      have pn03 : ¬ w.heap.size = W1.heap.size := by omega
      have pn04 : ¬ w.heap.size = W1.heap.size + 1 := by omega
      have pn05 : ¬ w.heap.size = W1.heap.size + 1 + 1 := by omega
      have pn10 : ¬ w.heap.size + 1 = w.heap.size := by omega
      have pn12 : ¬ w.heap.size + 1 = w.heap.size + 1 + 1 := by omega
      have pn13 : ¬ w.heap.size + 1 = W1.heap.size := by omega
      have pn14 : ¬ w.heap.size + 1 = W1.heap.size + 1 := by omega
      have pn15 : ¬ w.heap.size + 1 = W1.heap.size + 1 + 1 := by omega
      have pn20 : ¬ w.heap.size + 1 + 1 = w.heap.size := by omega
      have pn21 : ¬ w.heap.size + 1 + 1 = w.heap.size + 1 := by omega
      have pn23 : ¬ w.heap.size + 1 + 1 = W1.heap.size := by omega
      have pn24 : ¬ w.heap.size + 1 + 1 = W1.heap.size + 1 := by omega
      have pn25 : ¬ w.heap.size + 1 + 1 = W1.heap.size + 1 + 1 := by omega
      have pn30 : ¬ W1.heap.size = w.heap.size := by omega
      have pn31 : ¬ W1.heap.size = w.heap.size + 1 := by omega
      have pn32 : ¬ W1.heap.size = w.heap.size + 1 + 1 := by omega
      have pn34 : ¬ W1.heap.size = W1.heap.size + 1 := by omega
      have pn35 : ¬ W1.heap.size = W1.heap.size + 1 + 1 := by omega
      have pn40 : ¬ W1.heap.size + 1 = w.heap.size := by omega
      have pn41 : ¬ W1.heap.size + 1 = w.heap.size + 1 := by omega
      have pn42 : ¬ W1.heap.size + 1 = w.heap.size + 1 + 1 := by omega
      have pn43 : ¬ W1.heap.size + 1 = W1.heap.size := by omega
      have pn45 : ¬ W1.heap.size + 1 = W1.heap.size + 1 + 1 := by omega
      have pn50 : ¬ W1.heap.size + 1 + 1 = w.heap.size := by omega
      have pn51 : ¬ W1.heap.size + 1 + 1 = w.heap.size + 1 := by omega
      have pn52 : ¬ W1.heap.size + 1 + 1 = w.heap.size + 1 + 1 := by omega
      have pn53 : ¬ W1.heap.size + 1 + 1 = W1.heap.size := by omega
      have pn54 : ¬ W1.heap.size + 1 + 1 = W1.heap.size + 1 := by omega
      gi_wp2_with fail
      refine only_wide ?_
      refine wp_named (fun W_ => (isRow W_ w.heap.size ∧ rowAt W_ w.heap.size = (En (stk s l n))) ∧ (isRow W_ (w.heap.size + 1) ∧ rowAt W_ (w.heap.size + 1) = #[.slice A n c]) ∧ (isRow W_ (w.heap.size + 1 + 1) ∧ rowAt W_ (w.heap.size + 1 + 1) = #[.bool false]) ∧ (isRow W_ W1.heap.size ∧ rowAt W_ W1.heap.size = (En (stk s l n))) ∧ (isRow W_ (W1.heap.size + 1) ∧ rowAt W_ (W1.heap.size + 1) = (En s)) ∧ (isRow W_ (W1.heap.size + 1 + 1) ∧ rowAt W_ (W1.heap.size + 1 + 1) = #[.int .i64 n]) ∧ W_.heap[D]? = some (.deferred (some [])) ∧ Below w.heap.size w W_) (by refine ⟨⟨by go_simp, by go_simp⟩, ⟨by go_simp, by go_simp⟩, ⟨by go_simp, by go_simp⟩, ⟨by go_simp, by go_simp⟩, ⟨by go_simp, by go_simp⟩, ⟨by go_simp, by go_simp⟩, by first | assumption | (go_simp; done) | exact hK, by go_simp⟩) ?_
      rintro v1 ⟨⟨S_1, S_1'⟩, ⟨A_1, A_1'⟩, ⟨B_1, B_1'⟩, ⟨R_1, R_1'⟩, ⟨F_1, F_1'⟩, ⟨N_1, N_1'⟩, al0_1, hB_1⟩
      clear c1 c1' c2 c2' c3 c3' c4 c4' c5 c5' c6 c6' hBW hK
      have hz_1 : w.heap.size ≤ v1.heap.size := hB_1.size
      have hl_S_1 := isRow.lt S_1
      have ne_S_1_0 : ¬ w.heap.size = v1.heap.size := by omega
      have en_S_1_0 : ¬ v1.heap.size = w.heap.size := by omega
      have hl_A_1 := isRow.lt A_1
      have ne_A_1_0 : ¬ (w.heap.size + 1) = v1.heap.size := by omega
      have en_A_1_0 : ¬ v1.heap.size = (w.heap.size + 1) := by omega
      have hl_B_1 := isRow.lt B_1
      have ne_B_1_0 : ¬ (w.heap.size + 1 + 1) = v1.heap.size := by omega
      have en_B_1_0 : ¬ v1.heap.size = (w.heap.size + 1 + 1) := by omega
      have hl_R_1 := isRow.lt R_1
      have ne_R_1_0 : ¬ W1.heap.size = v1.heap.size := by omega
      have en_R_1_0 : ¬ v1.heap.size = W1.heap.size := by omega
      have hl_F_1 := isRow.lt F_1
      have ne_F_1_0 : ¬ (W1.heap.size + 1) = v1.heap.size := by omega
      have en_F_1_0 : ¬ v1.heap.size = (W1.heap.size + 1) := by omega
      have hl_N_1 := isRow.lt N_1
      have ne_N_1_0 : ¬ (W1.heap.size + 1 + 1) = v1.heap.size := by omega
      have en_N_1_0 : ¬ v1.heap.size = (W1.heap.size + 1 + 1) := by omega
      refine wp_region_held_drew (S := fun w' => (isRow w' w.heap.size ∧ rowAt w' w.heap.size = (En (stk s l n))) ∧ (isRow w' (w.heap.size + 1) ∧ rowAt w' (w.heap.size + 1) = #[.slice A n c]) ∧ (isRow w' (w.heap.size + 1 + 1) ∧ (rowAt w' (w.heap.size + 1 + 1)).size = 1) ∧ (isRow w' W1.heap.size ∧ rowAt w' W1.heap.size = (En (stk s l n))) ∧ (isRow w' (W1.heap.size + 1) ∧ rowAt w' (W1.heap.size + 1) = (En s)) ∧ (isRow w' (W1.heap.size + 1 + 1) ∧ rowAt w' (W1.heap.size + 1 + 1) = #[.int .i64 n]) ∧ w'.heap[D]? = some (.deferred (some [])) ∧ Below w.heap.size w w') (by kernel_rfl) ⟨⟨by go_simp, by go_simp⟩, ⟨by go_simp, by go_simp⟩, ⟨by go_simp, by go_simp⟩, ⟨by go_simp, by go_simp⟩, ⟨by go_simp, by go_simp⟩, ⟨by go_simp, by go_simp⟩, by first | exact al0_1 | (go_simp; done), by go_simp⟩ (fun hHeld => ?_)
      refine wpAnyH_take (i := 0) (oi := ⟨some 73, .move (.tmp 5), 4, "law.go:46", #[], none⟩) (v := ?_) rfl (by kernel_rfl) (by kernel_rfl) (by kernel_rfl) (fun _ _ _ h => h) (Or.inl ⟨by rfl, ?_⟩) (by assumption) ?_
      rotate_left
      · (intro w_ hS_; (try dsimp only at hS_); go_simp; try with_reducible rfl)
      try simp only [Act.put, List.setIfInBounds_toArray, List.set_cons_zero, List.set_cons_succ]
      refine wpAnyH_take (i := 1) (oi := ⟨some 74, .move (.tmp 73), 4, "law.go:46", #[⟨0, .data⟩], none⟩) (v := ?_) rfl (by kernel_rfl) (by kernel_rfl) (by kernel_rfl) (fun _ _ _ h => h) (Or.inl ⟨by rfl, ?_⟩) (by assumption) ?_
      rotate_left
      · (intro w_ hS_; (try dsimp only at hS_); go_simp; try with_reducible rfl)
      try simp only [Act.put, List.setIfInBounds_toArray, List.set_cons_zero, List.set_cons_succ]
      refine wpAnyH_take (i := 2) (oi := ⟨some 75, .load 3 (.tmp 8), 3, "law.go:46", #[⟨1, .guard⟩], some (1, true)⟩) (v := ?_) rfl (by kernel_rfl) (by kernel_rfl) (by kernel_rfl) (fun _ _ _ h => h) (Or.inl ⟨by rfl, ?_⟩) (by assumption) ?_
      rotate_left
      · (intro w_ hS_; (try dsimp only at hS_); go_simp; try with_reducible rfl)
      try simp only [Act.put, List.setIfInBounds_toArray, List.set_cons_zero, List.set_cons_succ]
      refine wpAnyH_take (i := 3) (oi := ⟨some 76, .load 27 (.tmp 3), 27, "law.go:46", #[⟨1, .guard⟩], some (1, true)⟩) (v := ?_) rfl (by kernel_rfl) (by kernel_rfl) (by kernel_rfl) (fun _ _ _ h => h) (Or.inl ⟨by rfl, ?_⟩) (by assumption) ?_
      rotate_left
      · (intro w_ hS_; (try dsimp only at hS_); go_simp; try with_reducible rfl)
      try simp only [Act.put, List.setIfInBounds_toArray, List.set_cons_zero, List.set_cons_succ]
      refine wpAnyH_take (i := 4) (oi := ⟨some 77, .call ⟨.builtin .len, #[.tmp 76], #[27]⟩, 3, "law.go:46", #[⟨3, .data⟩, ⟨1, .guard⟩], some (1, true)⟩) (v := ?_) rfl (by kernel_rfl) (by kernel_rfl) (by kernel_rfl) (fun _ _ _ h => h) (Or.inl ⟨by rfl, ?_⟩) (by assumption) ?_
      rotate_left
      · (intro w_ hS_; (try dsimp only at hS_); go_simp; try with_reducible rfl)
      try simp only [Act.put, List.setIfInBounds_toArray, List.set_cons_zero, List.set_cons_succ]
      refine wpAnyH_take (i := 5) (oi := ⟨some 78, .binOp .eql 3 (.tmp 75) (.tmp 77) 3, 4, "law.go:46", #[⟨2, .data⟩, ⟨4, .data⟩, ⟨1, .guard⟩], some (1, true)⟩) (v := ?_) rfl (by kernel_rfl) (by kernel_rfl) (by kernel_rfl) (fun _ _ _ h => h) (Or.inl ⟨by rfl, ?_⟩) (by assumption) ?_
      rotate_left
      · (intro w_ hS_; (try dsimp only at hS_); go_simp; try with_reducible rfl)
      try simp only [Act.put, List.setIfInBounds_toArray, List.set_cons_zero, List.set_cons_succ]
      refine wpAnyH_take (i := 6) (oi := ⟨some 79, .pick (.tmp 74) (.tmp 78) (.const (.bool false)), 4, "law.go:46", #[⟨1, .data⟩, ⟨5, .data⟩], none⟩) (v := ?_) rfl (by kernel_rfl) (by kernel_rfl) (by kernel_rfl) (fun _ _ _ h => h) (Or.inl ⟨by rfl, ?_⟩) (by assumption) ?_
      rotate_left
      · (intro w_ hS_; (try dsimp only at hS_); go_simp; try with_reducible rfl)
      try simp only [Act.put, List.setIfInBounds_toArray, List.set_cons_zero, List.set_cons_succ]
      refine wpAnyH_take (i := 7) (oi := ⟨some 80, .move (.tmp 79), 4, "law.go:46", #[⟨6, .data⟩, ⟨1, .chain⟩], none⟩) (v := ?_) rfl (by kernel_rfl) (by kernel_rfl) (by kernel_rfl) (fun _ _ _ h => h) (Or.inl ⟨by rfl, ?_⟩) (by assumption) ?_
      rotate_left
      · (intro w_ hS_; (try dsimp only at hS_); go_simp; try with_reducible rfl)
      try simp only [Act.put, List.setIfInBounds_toArray, List.set_cons_zero, List.set_cons_succ]
      refine wpAnyH_take (i := 8) (oi := ⟨some 81, .load 23 (.tmp 7), 23, "law.go:46", #[⟨7, .guard⟩], some (7, true)⟩) (v := ?_) rfl (by kernel_rfl) (by kernel_rfl) (by kernel_rfl) (fun _ _ _ h => h) (Or.inl ⟨by rfl, ?_⟩) (by assumption) ?_
      rotate_left
      · (intro w_ hS_; (try dsimp only at hS_); go_simp; try with_reducible rfl)
      try simp only [Act.put, List.setIfInBounds_toArray, List.set_cons_zero, List.set_cons_succ]
      refine wpAnyH_take (i := 9) (oi := ⟨some 82, .load 27 (.tmp 3), 27, "law.go:46", #[⟨7, .guard⟩], some (7, true)⟩) (v := ?_) rfl (by kernel_rfl) (by kernel_rfl) (by kernel_rfl) (fun _ _ _ h => h) (Or.inl ⟨by rfl, ?_⟩) (by assumption) ?_
      rotate_left
      · (intro w_ hS_; (try dsimp only at hS_); go_simp; try with_reducible rfl)
      try simp only [Act.put, List.setIfInBounds_toArray, List.set_cons_zero, List.set_cons_succ]
      refine wpAnyH_take (i := 11) (oi := ⟨some 84, .load 23 (.tmp 6), 23, "law.go:46", #[⟨7, .guard⟩], some (7, true)⟩) (v := ?_) rfl (by kernel_rfl) (by kernel_rfl) (by kernel_rfl) (fun _ _ _ h => h) (Or.inl ⟨by rfl, ?_⟩) (by assumption) ?_
      rotate_left
      · (intro w_ hS_; (try dsimp only at hS_); go_simp; try with_reducible rfl)
      try simp only [Act.put, List.setIfInBounds_toArray, List.set_cons_zero, List.set_cons_succ]
      refine wpAnyH_ready (rs := [10]) (by kernel_rfl) (by simp) ?_
      refine AllReadyH.cons (o := ⟨some 83, .call ⟨.value (.func 25), #[.tmp 81, .tmp 82], #[23, 27]⟩, 23, "law.go:46", #[⟨8, .data⟩, ⟨9, .data⟩, ⟨7, .chain⟩, ⟨7, .guard⟩], some (7, true)⟩) rfl (fun K hK => ?_) AllReadyH.nil
      (have hq_ := hHeld; (try dsimp only at hq_))
      obtain ⟨⟨PS_2_1, PS_2_1'⟩, ⟨PA_2_1, PA_2_1'⟩, ⟨PB_2_1, PB_2_1'⟩, ⟨PR_2_1, PR_2_1'⟩, ⟨PF_2_1, PF_2_1'⟩, ⟨PN_2_1, PN_2_1'⟩, al0_2_1, hF_2_1⟩ := hq_
      go_simp
      refine (After_c s A n c l _ (Kd.C_below hr (by assumption))).mono ?_
      rintro e u2_1 ⟨rfl, hb⟩
      refine hK.out _ _ ?_ (fun hHeld => ?_)
      · exact ⟨⟨rk1 PS_2_1 hb, rk2 PS_2_1 PS_2_1' hb⟩, ⟨rk1 PA_2_1 hb, rk2 PA_2_1 PA_2_1' hb⟩, ⟨rk1 PB_2_1 hb, by rw [rk3 PB_2_1 hb]; exact PB_2_1'⟩, ⟨rk1 PR_2_1 hb, rk2 PR_2_1 PR_2_1' hb⟩, ⟨rk1 PF_2_1 hb, rk2 PF_2_1 PF_2_1' hb⟩, ⟨rk1 PN_2_1 hb, rk2 PN_2_1 PN_2_1' hb⟩, heap_low al0_2_1 hb, bk hF_2_1 hF_2_1.size hb⟩
      clear hK K
      try simp only [Act.put, List.setIfInBounds_toArray, List.set_cons_zero, List.set_cons_succ]
      refine wpAnyH_take (i := 12) (oi := ⟨some 85, .binOp .eql 23 (.tmp 83) (.tmp 84) 23, 4, "law.go:46", #[⟨10, .data⟩, ⟨11, .data⟩, ⟨7, .guard⟩], some (7, true)⟩) (v := ?_) rfl (by kernel_rfl) (by kernel_rfl) (by kernel_rfl) (fun _ _ _ h => h) (Or.inl ⟨by rfl, ?_⟩) (by assumption) ?_
      rotate_left
      · (intro w_ hS_; (try dsimp only at hS_); go_simp; try with_reducible rfl)
      try simp only [Act.put, List.setIfInBounds_toArray, List.set_cons_zero, List.set_cons_succ]
      refine wpAnyH_take (i := 13) (oi := ⟨some 86, .pick (.tmp 80) (.tmp 85) (.const (.bool false)), 4, "law.go:46", #[⟨7, .data⟩, ⟨12, .data⟩], none⟩) (v := ?_) rfl (by kernel_rfl) (by kernel_rfl) (by kernel_rfl) (fun _ _ _ h => h) (Or.inl ⟨by rfl, ?_⟩) (by assumption) ?_
      rotate_left
      · (intro w_ hS_; (try dsimp only at hS_); go_simp; try with_reducible rfl)
      try simp only [Act.put, List.setIfInBounds_toArray, List.set_cons_zero, List.set_cons_succ]
      refine wpAnyH_ready (rs := [14]) (by kernel_rfl) (by simp) ?_
      refine AllReadyH.cons (o := ⟨none, .store 4 (.tmp 4) (.tmp 86), 0, "law.go:46", #[⟨13, .data⟩, ⟨10, .chain⟩, ⟨0, .phase⟩, ⟨1, .phase⟩, ⟨2, .phase⟩, ⟨3, .phase⟩, ⟨4, .phase⟩, ⟨5, .phase⟩, ⟨6, .phase⟩, ⟨7, .phase⟩, ⟨8, .phase⟩, ⟨9, .phase⟩, ⟨10, .phase⟩, ⟨11, .phase⟩, ⟨12, .phase⟩, ⟨13, .phase⟩], none⟩) rfl (fun K hK => ?_) AllReadyH.nil
      (have hq_ := hHeld; (try dsimp only at hq_))
      obtain ⟨⟨PS_2_2, PS_2_2'⟩, ⟨PA_2_2, PA_2_2'⟩, ⟨PB_2_2, PB_2_2'⟩, ⟨PR_2_2, PR_2_2'⟩, ⟨PF_2_2, PF_2_2'⟩, ⟨PN_2_2, PN_2_2'⟩, al0_2_2, hF_2_2⟩ := hq_
      go_simp
      refine hK.out _ _ ?_ (fun hHeld => ?_)
      · (refine ⟨⟨by go_simp, by go_simp⟩, ⟨by go_simp, by go_simp⟩, ⟨by go_simp, by go_simp⟩, ⟨by go_simp, by go_simp⟩, ⟨by go_simp, by go_simp⟩, ⟨by go_simp, by go_simp⟩, by first | assumption | (go_simp; done), by go_simp⟩)
      clear hK K
      try simp only [Act.put, List.setIfInBounds_toArray, List.set_cons_zero, List.set_cons_succ]
      refine wpAnyH_done (by kernel_rfl) ?_ _
      (try dsimp only at hHeld)
      go_split_ands
      gi_wp2_with fail
      exact leave_bool (by go_simp) rfl rfl (by go_simp) (by go_simp; exact one_set (by assumption)) eD ⟨rfl, below_putD (by go_simp) hDw _⟩
    case stop =>
      rintro D c pre x post W _ _ h _
      exact h.elim

  · skip
    gi_wp2_with fail
    refine callsIn_named (fun W_ => (isRow W_ w.heap.size ∧ rowAt W_ w.heap.size = En s) ∧ (isRow W_ (w.heap.size + 1) ∧ rowAt W_ (w.heap.size + 1) = #[.slice A n c]) ∧ (isRow W_ (w.heap.size + 1 + 1) ∧ rowAt W_ (w.heap.size + 1 + 1) = #[.bool false]) ∧ (isRow W_ (W1.heap.size + 1) ∧ rowAt W_ (W1.heap.size + 1) = En s) ∧ (isRow W_ W1.heap.size ∧ rowAt W_ W1.heap.size = En s) ∧ (isRow W_ (W1.heap.size + 1 + 1) ∧ rowAt W_ (W1.heap.size + 1 + 1) = #[.int .i64 0]) ∧ Below w.heap.size w W_) (by refine ⟨⟨by go_simp, by go_simp⟩, ⟨by go_simp, by go_simp⟩, ⟨by go_simp, by go_simp⟩, ⟨by go_simp, by go_simp⟩, ⟨by go_simp, by go_simp⟩, ⟨by go_simp, by go_simp⟩, (below_setRow (below_setRow (below_drew0 ((hB1.alloc lw0 _).alloc (by simp; omega) _)) (by omega) _) (by omega) _).alloc (by simp; omega) _⟩) ?_
    rintro W2 ⟨⟨a1, a1'⟩, ⟨a2, a2'⟩, ⟨a3, a3'⟩, ⟨a4, a4'⟩, ⟨a5, a5'⟩, ⟨a6, a6'⟩, hB2⟩
    refine (in_of_calls (Play_c s A n c _)).mono ?_
    rintro e W9 ⟨rfl, rfl⟩
    clear b1 b1' b2 b2' b3 b3' hB1
    have g6 := a6.lt
    have lw2 : w.heap.size ≤ W2.heap.size := hB2.size
    have hb4 : Below w.heap.size w ((W2.alloc (.cells (En s) 23)).alloc (.cells #[.slice A n c] 27)) := (hB2.alloc (by omega) _).alloc (by simp; omega) _
    have y1 : Row ((W2.alloc (.cells (En s) 23)).alloc (.cells #[.slice A n c] 27)) w.heap.size (En s) := ⟨by go_simp, by go_simp⟩
    have y2 : Row ((W2.alloc (.cells (En s) 23)).alloc (.cells #[.slice A n c] 27)) (w.heap.size + 1) #[.slice A n c] := ⟨by go_simp, by go_simp⟩
    have y3 : Row ((W2.alloc (.cells (En s) 23)).alloc (.cells #[.slice A n c] 27)) (w.heap.size + 1 + 1) #[.bool false] := ⟨by go_simp, by go_simp⟩
    have y4 : Row ((W2.alloc (.cells (En s) 23)).alloc (.cells #[.slice A n c] 27)) (W1.heap.size + 1) (En s) := ⟨by go_simp, by go_simp⟩
    have y5 : Row ((W2.alloc (.cells (En s) 23)).alloc (.cells #[.slice A n c] 27)) W1.heap.size (En s) := ⟨by go_simp, by go_simp⟩
    have y6 : Row ((W2.alloc (.cells (En s) 23)).alloc (.cells #[.slice A n c] 27)) (W1.heap.size + 1 + 1) #[.int .i64 0] := ⟨by go_simp, by go_simp⟩
    have y7 : Row ((W2.alloc (.cells (En s) 23)).alloc (.cells #[.slice A n c] 27)) W2.heap.size (En s) := ⟨by go_simp, by go_simp⟩
    have y8 : Row ((W2.alloc (.cells (En s) 23)).alloc (.cells #[.slice A n c] 27)) (W2.heap.size + 1) #[.slice A n c] := ⟨by go_simp, by go_simp⟩
    have hs4 : ((W2.alloc (.cells (En s) 23)).alloc (.cells #[.slice A n c] 27)).heap.size = W2.heap.size + 2 := by simp
    unfold PlayV
    generalize (W2.alloc (.cells (En s) 23)).alloc (.cells #[.slice A n c] 27) = W3 at *
    clear a1 a1' a2 a2' a3 a3' a4 a4' a5 a5' a6 a6' hB2
    have hrC := Kd.C_below hr hb4
    gi_wp2_with fail
    refine wp_range (Pv := fun _ => True) (fun _ _ => trivial) rfl (enters_of Try.func26 (by kernel_rfl) rfl) (play_iter (In3 w.heap.size (W1.heap.size + 1) (W1.heap.size + 1 + 1)) s A n c l W2.heap.size (W2.heap.size + 1) W3 hn hmx (fun k h => by unfold In3; omega) (by unfold In3; omega) (by unfold In3; omega) (fun ad e h => by have := hA ad e h; unfold In3; omega) y7 y8 hrC) (Below.refl _ _)
      (fun h k => h.trans k) (fun W l o o' _ h1 h2 => KeepC.put W l o o' h1 h2) (fun _ => rfl)
      (fun pre W => Row W w.heap.size (En (lst s l pre)) ∧ Row W (w.heap.size + 1) #[.slice A n c] ∧ Row W (w.heap.size + 1 + 1) #[.bool false] ∧ Row W (W1.heap.size + 1) (En (lst s l pre)) ∧ Row W W1.heap.size (En s) ∧ Row W (W1.heap.size + 1 + 1) #[.int .i64 pre.length] ∧ Below w.heap.size w W) (fun _ _ _ => False)
      ((OwnP.row _ (by omega) (fun pre : List St => En (lst s l pre))).and ((OwnP.row _ (by omega) (fun _ : List St => #[.slice A n c])).and ((OwnP.row _ (by omega) (fun _ : List St => #[.bool false])).and ((OwnP.row _ (by omega) (fun pre : List St => En (lst s l pre))).and ((OwnP.row _ (by omega) (fun _ : List St => En s)).and ((OwnP.row _ (by omega) (fun pre : List St => #[.int .i64 pre.length])).and (OwnP.below _ (by omega) (by omega)))))))) (fun _ => OwnP.const _ _ (fun _ => False))
      ⟨y1, y2, y3, y4, y5, y6, hb4⟩ ?round ?done ?stop
    case round =>
      rintro l' pre x post W hx hl_ hlt ⟨⟨c1, c1'⟩, ⟨c2, c2'⟩, ⟨c3, c3'⟩, ⟨c4, c4'⟩, ⟨c5, c5'⟩, ⟨c6, c6'⟩, hBW⟩
      obtain ⟨hk, rfl, -⟩ := sts_split s l hx
      have hq := lst_snoc s l pre (stk s l (pre.length + 1))
      have hlenI : ((pre ++ [stk s l (pre.length + 1)]).length : Int) = pre.length + 1 := by simp
      have hst := lst_step s l pre
      generalize stk s l (pre.length + 1) = x at *
      subst hst
      clear hx y1 y2 y3 y4 y5 y6 y7 y8
      have q6 := c6.lt
      have e1 : ¬ w.heap.size = W.heap.size := by omega
      have e2 : ¬ (w.heap.size + 1) = W.heap.size := by omega
      have e3 : ¬ (w.heap.size + 1 + 1) = W.heap.size := by omega
      have e4 : ¬ (W1.heap.size + 1) = W.heap.size := by omega
      have e5 : ¬ W1.heap.size = W.heap.size := by omega
      have e6 : ¬ (W1.heap.size + 1 + 1) = W.heap.size := by omega
      have e7 : w.heap.size ≤ W.heap.size := hBW.size
      gi_wp2
      have hbn : Below W.heap.size W ((W.alloc (.cells #[.bool false, .bool false, .bool false, .bool false] 23)).setRow W.heap.size (En (stp (lst s l pre) (rd l pre.length)))) := below_setRow ((Below.refl _ W).alloc (Nat.le_refl _) _) (Nat.le_refl _) _
      refine ⟨KeepsFrom.low hbn, KeepC.low hbn, ⟨⟨by go_simp, by go_simp⟩, ⟨by go_simp, by go_simp⟩, ⟨by go_simp, by go_simp⟩, ⟨by go_simp, by go_simp⟩, ⟨by go_simp, by go_simp⟩, ⟨by go_simp, by go_simp⟩, bk hBW hBW.size hbn⟩, ?_⟩
      have r7 : Row ((W.alloc (.cells #[.bool false, .bool false, .bool false, .bool false] 23)).setRow W.heap.size (En (stp (lst s l pre) (rd l pre.length)))) W.heap.size (En (stp (lst s l pre) (rd l pre.length))) := Row.setRow isRow_new
      rintro U hg ⟨⟨d1, d1'⟩, ⟨d2, d2'⟩, ⟨d3, d3'⟩, ⟨d4, d4'⟩, ⟨d5, d5'⟩, ⟨d6, d6'⟩, hBU⟩
      obtain ⟨d7, d7'⟩ := Row.kept r7 hg (by intro e; cases e; omega)
      clear hbn r7 hg c1 c1' c2 c2' c3 c3' c4 c4' c5 c5' c6 c6' hBW
      have k0 : (0 : Int) ≤ pre.length := by omega
      have k1 : (pre.length : Int) < n := by omega
      have k2 : ¬ (n : Int) ≤ pre.length := by omega
      have hlU := d7.lt
      obtain ⟨ad, e, hx⟩ := Kd.at_int (Kd.C_below hr hBU) (pre.length : Int) k0 k1
      have hab := hA ad e (by omega)
      cases e
      rw [Int.toNat_natCast] at hx
      have habk : (ad.add pre.length).block < w.heap.size := by unfold Addr.add; split <;> exact hab
      clear hab hA hrC
      have f1 : ¬ w.heap.size = (ad.add pre.length).block := by omega
      have f4 : ¬ (W1.heap.size + 1) = (ad.add pre.length).block := by omega
      have f6 : ¬ (W1.heap.size + 1 + 1) = (ad.add pre.length).block := by omega
      have hw1 : wrap64 ((pre.length : Int) + 1) = pre.length + 1 := w64 _ (by omega)
      have pn01 : ¬ w.heap.size = w.heap.size + 1 := by omega
      have pn02 : ¬ w.heap.size = w.heap.size + 1 + 1 := by omega
      have pn03 : ¬ w.heap.size = W1.heap.size + 1 := by omega
      have pn04 : ¬ w.heap.size = W1.heap.size := by omega
      have pn05 : ¬ w.heap.size = W1.heap.size + 1 + 1 := by omega
      have pn06 : ¬ w.heap.size = W.heap.size := by omega
      have pn10 : ¬ w.heap.size + 1 = w.heap.size := by omega
      have pn12 : ¬ w.heap.size + 1 = w.heap.size + 1 + 1 := by omega
      have pn13 : ¬ w.heap.size + 1 = W1.heap.size + 1 := by omega
      have pn14 : ¬ w.heap.size + 1 = W1.heap.size := by omega
      have pn15 : ¬ w.heap.size + 1 = W1.heap.size + 1 + 1 := by omega
      have pn16 : ¬ w.heap.size + 1 = W.heap.size := by omega
      have pn20 : ¬ w.heap.size + 1 + 1 = w.heap.size := by omega
      have pn21 : ¬ w.heap.size + 1 + 1 = w.heap.size + 1 := by omega
      have pn23 : ¬ w.heap.size + 1 + 1 = W1.heap.size + 1 := by omega
      have pn24 : ¬ w.heap.size + 1 + 1 = W1.heap.size := by omega
      have pn25 : ¬ w.heap.size + 1 + 1 = W1.heap.size + 1 + 1 := by omega
      have pn26 : ¬ w.heap.size + 1 + 1 = W.heap.size := by omega
      have pn30 : ¬ W1.heap.size + 1 = w.heap.size := by omega
      have pn31 : ¬ W1.heap.size + 1 = w.heap.size + 1 := by omega
      have pn32 : ¬ W1.heap.size + 1 = w.heap.size + 1 + 1 := by omega
      have pn34 : ¬ W1.heap.size + 1 = W1.heap.size := by omega
      have pn35 : ¬ W1.heap.size + 1 = W1.heap.size + 1 + 1 := by omega
      have pn36 : ¬ W1.heap.size + 1 = W.heap.size := by omega
      have pn40 : ¬ W1.heap.size = w.heap.size := by omega
      have pn41 : ¬ W1.heap.size = w.heap.size + 1 := by omega
      have pn42 : ¬ W1.heap.size = w.heap.size + 1 + 1 := by omega
      have pn43 : ¬ W1.heap.size = W1.heap.size + 1 := by omega
      have pn45 : ¬ W1.heap.size = W1.heap.size + 1 + 1 := by omega
      have pn46 : ¬ W1.heap.size = W.heap.size := by omega
      have pn50 : ¬ W1.heap.size + 1 + 1 = w.heap.size := by omega
      have pn51 : ¬ W1.heap.size + 1 + 1 = w.heap.size + 1 := by omega
      have pn52 : ¬ W1.heap.size + 1 + 1 = w.heap.size + 1 + 1 := by omega
      have pn53 : ¬ W1.heap.size + 1 + 1 = W1.heap.size + 1 := by omega
      have pn54 : ¬ W1.heap.size + 1 + 1 = W1.heap.size := by omega
      have pn56 : ¬ W1.heap.size + 1 + 1 = W.heap.size := by omega
      have pn60 : ¬ W.heap.size = w.heap.size := by omega
      have pn61 : ¬ W.heap.size = w.heap.size + 1 := by omega
      have pn62 : ¬ W.heap.size = w.heap.size + 1 + 1 := by omega
      have pn63 : ¬ W.heap.size = W1.heap.size + 1 := by omega
      have pn64 : ¬ W.heap.size = W1.heap.size := by omega
      have pn65 : ¬ W.heap.size = W1.heap.size + 1 + 1 := by omega
      have hX : AsideP (In3 w.heap.size (W1.heap.size + 1) (W1.heap.size + 1 + 1)) U U := .of_below (Below.refl _ _)
      have hin1 : In3 w.heap.size (W1.heap.size + 1) (W1.heap.size + 1 + 1) w.heap.size := in3a
      have hin2 : In3 w.heap.size (W1.heap.size + 1) (W1.heap.size + 1 + 1) (W1.heap.size + 1) := in3b
      have hin3 : In3 w.heap.size (W1.heap.size + 1) (W1.heap.size + 1 + 1) (W1.heap.size + 1 + 1) := in3c
      gi_wp2_with fail
      refine wpIn_named (fun W_ => (isRow W_ w.heap.size ∧ rowAt W_ w.heap.size = (En (lst s l pre))) ∧ (isRow W_ (w.heap.size + 1) ∧ rowAt W_ (w.heap.size + 1) = #[.slice (some ad) n c]) ∧ (isRow W_ (w.heap.size + 1 + 1) ∧ rowAt W_ (w.heap.size + 1 + 1) = #[.bool false]) ∧ (isRow W_ (W1.heap.size + 1) ∧ rowAt W_ (W1.heap.size + 1) = (En (lst s l pre))) ∧ (isRow W_ W1.heap.size ∧ rowAt W_ W1.heap.size = (En s)) ∧ (isRow W_ (W1.heap.size + 1 + 1) ∧ rowAt W_ (W1.heap.size + 1 + 1) = #[.int .i64 pre.length]) ∧ (isRow W_ W.heap.size ∧ rowAt W_ W.heap.size = (En (stp (lst s l pre) (rd l pre.length)))) ∧ W_.cell? (ad.add pre.length) = some (.int .i64 (rd l pre.length)) ∧ AsideP (In3 w.heap.size (W1.heap.size + 1) (W1.heap.size + 1 + 1)) U W_) (by refine ⟨⟨by go_simp, by go_simp⟩, ⟨by go_simp, by go_simp⟩, ⟨by go_simp, by go_simp⟩, ⟨by go_simp, by go_simp⟩, ⟨by go_simp, by go_simp⟩, ⟨by go_simp, by go_simp⟩, ⟨by go_simp, by go_simp⟩, by first | assumption | (go_simp; done) | exact hx, by go_simp⟩) ?_
      rintro v1 ⟨⟨S_1, S_1'⟩, ⟨A_1, A_1'⟩, ⟨B_1, B_1'⟩, ⟨R_1, R_1'⟩, ⟨F_1, F_1'⟩, ⟨N_1, N_1'⟩, ⟨X_1, X_1'⟩, al0_1, hB_1⟩
      clear d1 d1' d2 d2' d3 d3' d4 d4' d5 d5' d6 d6' d7 d7' hX hx
      have hz_1 : U.heap.size ≤ v1.heap.size := hB_1.size
      have hl_S_1 := isRow.lt S_1
      have ne_S_1_0 : ¬ w.heap.size = v1.heap.size := by omega
      have en_S_1_0 : ¬ v1.heap.size = w.heap.size := by omega
      have hl_A_1 := isRow.lt A_1
      have ne_A_1_0 : ¬ (w.heap.size + 1) = v1.heap.size := by omega
      have en_A_1_0 : ¬ v1.heap.size = (w.heap.size + 1) := by omega
      have hl_B_1 := isRow.lt B_1
      have ne_B_1_0 : ¬ (w.heap.size + 1 + 1) = v1.heap.size := by omega
      have en_B_1_0 : ¬ v1.heap.size = (w.heap.size + 1 + 1) := by omega
      have hl_R_1 := isRow.lt R_1
      have ne_R_1_0 : ¬ (W1.heap.size + 1) = v1.heap.size := by omega
      have en_R_1_0 : ¬ v1.heap.size = (W1.heap.size + 1) := by omega
      have hl_F_1 := isRow.lt F_1
      have ne_F_1_0 : ¬ W1.heap.size = v1.heap.size := by omega
      have en_F_1_0 : ¬ v1.heap.size = W1.heap.size := by omega
      have hl_N_1 := isRow.lt N_1
      have ne_N_1_0 : ¬ (W1.heap.size + 1 + 1) = v1.heap.size := by omega
      have en_N_1_0 : ¬ v1.heap.size = (W1.heap.size + 1 + 1) := by omega
      have hl_X_1 := isRow.lt X_1
      have ne_X_1_0 : ¬ W.heap.size = v1.heap.size := by omega
      have en_X_1_0 : ¬ v1.heap.size = W.heap.size := by omega
      refine wpIn_region_held (S := fun w' => (isRow w' w.heap.size ∧ rowAt w' w.heap.size = (En (lst s l pre))) ∧ (isRow w' (w.heap.size + 1) ∧ rowAt w' (w.heap.size + 1) = #[.slice (some ad) n c]) ∧ (isRow w' (w.heap.size + 1 + 1) ∧ rowAt w' (w.heap.size + 1 + 1) = #[.bool false]) ∧ (isRow w' (W1.heap.size + 1) ∧ (rowAt w' (W1.heap.size + 1)).size = 4) ∧ (isRow w' W1.heap.size ∧ rowAt w' W1.heap.size = (En s)) ∧ (isRow w' (W1.heap.size + 1 + 1) ∧ rowAt w' (W1.heap.size + 1 + 1) = #[.int .i64 pre.length]) ∧ (isRow w' W.heap.size ∧ rowAt w' W.heap.size = (En (stp (lst s l pre) (rd l pre.length)))) ∧ w'.cell? (ad.add pre.length) = some (.int .i64 (rd l pre.length)) ∧ AsideP (In3 w.heap.size (W1.heap.size + 1) (W1.heap.size + 1 + 1)) U w') (by kernel_rfl) (by kernel_rfl) (by rintro ⟨_, _, h_⟩; exact h_) ⟨⟨by go_simp, by go_simp⟩, ⟨by go_simp, by go_simp⟩, ⟨by go_simp, by go_simp⟩, ⟨by go_simp, by go_simp⟩, ⟨by go_simp, by go_simp⟩, ⟨by go_simp, by go_simp⟩, ⟨by go_simp, by go_simp⟩, by first | exact al0_1 | (go_simp; done), by go_simp⟩ (fun hHeld => ?_)
      refine wpAnyH_take (i := 1) (oi := ⟨some 24, .load 27 (.tmp 3), 27, "law.go:39", #[], none⟩) (v := ?_) rfl (by kernel_rfl) (by kernel_rfl) (by kernel_rfl) (fun _ _ _ h => h) (Or.inl ⟨by rfl, ?_⟩) (by assumption) ?_
      rotate_left
      · (intro w_ hS_; (try dsimp only at hS_); go_simp; try with_reducible rfl)
      try simp only [Act.put, List.setIfInBounds_toArray, List.set_cons_zero, List.set_cons_succ]
      refine wpAnyH_take (i := 2) (oi := ⟨some 25, .load 3 (.tmp 8), 3, "law.go:39", #[], none⟩) (v := ?_) rfl (by kernel_rfl) (by kernel_rfl) (by kernel_rfl) (fun _ _ _ h => h) (Or.inl ⟨by rfl, ?_⟩) (by assumption) ?_
      rotate_left
      · (intro w_ hS_; (try dsimp only at hS_); go_simp; try with_reducible rfl)
      try simp only [Act.put, List.setIfInBounds_toArray, List.set_cons_zero, List.set_cons_succ]
      refine wpAnyH_take (i := 3) (oi := ⟨some 26, .indexAddr 27 (.tmp 24) (.tmp 25), 0, "law.go:39", #[⟨1, .data⟩, ⟨2, .data⟩], none⟩) (v := ?_) rfl (by kernel_rfl) (by kernel_rfl) (by kernel_rfl) (fun _ _ _ h => h) (Or.inl ⟨by rfl, ?_⟩) (by assumption) ?_
      rotate_left
      · (intro w_ hS_; (try dsimp only at hS_); go_simp; try with_reducible rfl)
      try simp only [Act.put, List.setIfInBounds_toArray, List.set_cons_zero, List.set_cons_succ]
      refine wpAnyH_take (i := 4) (oi := ⟨some 27, .load 26 (.tmp 26), 26, "law.go:39", #[⟨3, .data⟩], none⟩) (v := ?_) rfl (by kernel_rfl) (by kernel_rfl) (by kernel_rfl) (fun _ _ _ h => h) (Or.inl ⟨by rfl, ?_⟩) (by assumption) ?_
      rotate_left
      · (intro w_ hS_; (try dsimp only at hS_); go_simp; try with_reducible rfl)
      try simp only [Act.put, List.setIfInBounds_toArray, List.set_cons_zero, List.set_cons_succ]
      refine wpAnyH_ready (rs := [0]) (by kernel_rfl) (by simp) ?_
      refine AllReadyH.cons (o := ⟨some 23, .load 23 (.tmp 6), 23, "law.go:39", #[], none⟩) rfl (fun K hK => ?_) AllReadyH.nil
      (have hq_ := hHeld; (try dsimp only at hq_))
      obtain ⟨⟨PS_2_1, PS_2_1'⟩, ⟨PA_2_1, PA_2_1'⟩, ⟨PB_2_1, PB_2_1'⟩, ⟨PR_2_1, PR_2_1'⟩, ⟨PF_2_1, PF_2_1'⟩, ⟨PN_2_1, PN_2_1'⟩, ⟨PX_2_1, PX_2_1'⟩, al0_2_1, hF_2_1⟩ := hq_
      go_simp
      refine hK.out _ _ ?_ (fun hHeld => ?_)
      · (refine ⟨⟨by go_simp, by go_simp⟩, ⟨by go_simp, by go_simp⟩, ⟨by go_simp, by go_simp⟩, ⟨by go_simp, by go_simp⟩, ⟨by go_simp, by go_simp⟩, ⟨by go_simp, by go_simp⟩, ⟨by go_simp, by go_simp⟩, by first | assumption | (go_simp; done), by go_simp⟩)
      clear hK K
      try simp only [Act.put, List.setIfInBounds_toArray, List.set_cons_zero, List.set_cons_succ]
      refine wpAnyH_ready (rs := [5]) (by kernel_rfl) (by simp) ?_
      refine AllReadyH.cons (o := ⟨some 28, .call ⟨.value (.func 21), #[.tmp 23, .tmp 27], #[23, 26]⟩, 23, "law.go:39", #[⟨0, .data⟩, ⟨4, .data⟩], none⟩) rfl (fun K hK => ?_) AllReadyH.nil
      (have hq_ := hHeld; (try dsimp only at hq_))
      obtain ⟨⟨PS_2_2, PS_2_2'⟩, ⟨PA_2_2, PA_2_2'⟩, ⟨PB_2_2, PB_2_2'⟩, ⟨PR_2_2, PR_2_2'⟩, ⟨PF_2_2, PF_2_2'⟩, ⟨PN_2_2, PN_2_2'⟩, ⟨PX_2_2, PX_2_2'⟩, al0_2_2, hF_2_2⟩ := hq_
      go_simp
      refine (rstep_c _ _ _).mono ?_
      rintro e u2_2 ⟨rfl, hb⟩
      refine hK.out _ _ ?_ (fun hHeld => ?_)
      · exact ⟨⟨rk1 PS_2_2 hb, rk2 PS_2_2 PS_2_2' hb⟩, ⟨rk1 PA_2_2 hb, rk2 PA_2_2 PA_2_2' hb⟩, ⟨rk1 PB_2_2 hb, rk2 PB_2_2 PB_2_2' hb⟩, ⟨rk1 PR_2_2 hb, by rw [rk3 PR_2_2 hb]; exact PR_2_2'⟩, ⟨rk1 PF_2_2 hb, rk2 PF_2_2 PF_2_2' hb⟩, ⟨rk1 PN_2_2 hb, rk2 PN_2_2 PN_2_2' hb⟩, ⟨rk1 PX_2_2 hb, rk2 PX_2_2 PX_2_2' hb⟩, cell_low al0_2_2 hb, AsideP.low hF_2_2 hb⟩
      clear hK K
      try simp only [Act.put, List.setIfInBounds_toArray, List.set_cons_zero, List.set_cons_succ]
      refine wpAnyH_ready (rs := [6]) (by kernel_rfl) (by simp) ?_
      refine AllReadyH.cons (o := ⟨none, .store 23 (.tmp 6) (.tmp 28), 0, "law.go:39", #[⟨5, .data⟩, ⟨5, .chain⟩, ⟨0, .phase⟩, ⟨1, .phase⟩, ⟨2, .phase⟩, ⟨3, .phase⟩, ⟨4, .phase⟩, ⟨5, .phase⟩], none⟩) rfl (fun K hK => ?_) AllReadyH.nil
      (have hq_ := hHeld; (try dsimp only at hq_))
      obtain ⟨⟨PS_2_3, PS_2_3'⟩, ⟨PA_2_3, PA_2_3'⟩, ⟨PB_2_3, PB_2_3'⟩, ⟨PR_2_3, PR_2_3'⟩, ⟨PF_2_3, PF_2_3'⟩, ⟨PN_2_3, PN_2_3'⟩, ⟨PX_2_3, PX_2_3'⟩, al0_2_3, hF_2_3⟩ := hq_
      go_simp
      refine hK.out _ _ ?_ (fun hHeld => ?_)
      · (refine ⟨⟨by go_simp, by go_simp⟩, ⟨by go_simp, by go_simp⟩, ⟨by go_simp, by go_simp⟩, ⟨by go_simp, by go_simp⟩, ⟨by go_simp, by go_simp⟩, ⟨by go_simp, by go_simp⟩, ⟨by go_simp, by go_simp⟩, by first | assumption | (go_simp; done), by go_simp⟩)
      clear hK K
      try simp only [Act.put, List.setIfInBounds_toArray, List.set_cons_zero, List.set_cons_succ]
      refine wpAnyH_done (by kernel_rfl) ?_ _
      (try dsimp only at hHeld)
      go_split_ands
      gi_wp2_with fail
      refine wpIn_named (fun W_ => (isRow W_ w.heap.size ∧ rowAt W_ w.heap.size = (En (lst s l pre))) ∧ (isRow W_ (w.heap.size + 1) ∧ rowAt W_ (w.heap.size + 1) = #[.slice (some ad) n c]) ∧ (isRow W_ (w.heap.size + 1 + 1) ∧ rowAt W_ (w.heap.size + 1 + 1) = #[.bool false]) ∧ (isRow W_ (W1.heap.size + 1) ∧ rowAt W_ (W1.heap.size + 1) = (En (stp (lst s l pre) (rd l pre.length)))) ∧ (isRow W_ W1.heap.size ∧ rowAt W_ W1.heap.size = (En s)) ∧ (isRow W_ (W1.heap.size + 1 + 1) ∧ rowAt W_ (W1.heap.size + 1 + 1) = #[.int .i64 pre.length]) ∧ (isRow W_ W.heap.size ∧ rowAt W_ W.heap.size = (En (stp (lst s l pre) (rd l pre.length)))) ∧ W_.cell? (ad.add pre.length) = some (.int .i64 (rd l pre.length)) ∧ AsideP (In3 w.heap.size (W1.heap.size + 1) (W1.heap.size + 1 + 1)) U W_) (by refine ⟨⟨by go_simp, by go_simp⟩, ⟨by go_simp, by go_simp⟩, ⟨by go_simp, by go_simp⟩, ⟨by go_simp, by go_simp⟩, ⟨by go_simp, by go_simp⟩, ⟨by go_simp, by go_simp⟩, ⟨by go_simp, by go_simp⟩, by first | assumption | (go_simp; done) | exact trivial, by go_simp⟩) ?_
      rintro v3 ⟨⟨S_3, S_3'⟩, ⟨A_3, A_3'⟩, ⟨B_3, B_3'⟩, ⟨R_3, R_3'⟩, ⟨F_3, F_3'⟩, ⟨N_3, N_3'⟩, ⟨X_3, X_3'⟩, al0_3, hB_3⟩
      have hz_3 : U.heap.size ≤ v3.heap.size := hB_3.size
      have hl_S_3 := isRow.lt S_3
      have ne_S_3_0 : ¬ w.heap.size = v3.heap.size := by omega
      have en_S_3_0 : ¬ v3.heap.size = w.heap.size := by omega
      have hl_A_3 := isRow.lt A_3
      have ne_A_3_0 : ¬ (w.heap.size + 1) = v3.heap.size := by omega
      have en_A_3_0 : ¬ v3.heap.size = (w.heap.size + 1) := by omega
      have hl_B_3 := isRow.lt B_3
      have ne_B_3_0 : ¬ (w.heap.size + 1 + 1) = v3.heap.size := by omega
      have en_B_3_0 : ¬ v3.heap.size = (w.heap.size + 1 + 1) := by omega
      have hl_R_3 := isRow.lt R_3
      have ne_R_3_0 : ¬ (W1.heap.size + 1) = v3.heap.size := by omega
      have en_R_3_0 : ¬ v3.heap.size = (W1.heap.size + 1) := by omega
      have hl_F_3 := isRow.lt F_3
      have ne_F_3_0 : ¬ W1.heap.size = v3.heap.size := by omega
      have en_F_3_0 : ¬ v3.heap.size = W1.heap.size := by omega
      have hl_N_3 := isRow.lt N_3
      have ne_N_3_0 : ¬ (W1.heap.size + 1 + 1) = v3.heap.size := by omega
      have en_N_3_0 : ¬ v3.heap.size = (W1.heap.size + 1 + 1) := by omega
      have hl_X_3 := isRow.lt X_3
      have ne_X_3_0 : ¬ W.heap.size = v3.heap.size := by omega
      have en_X_3_0 : ¬ v3.heap.size = W.heap.size := by omega
      refine wpIn_region_held (S := fun w' => (isRow w' w.heap.size ∧ (rowAt w' w.heap.size).size = 4) ∧ (isRow w' (w.heap.size + 1) ∧ rowAt w' (w.heap.size + 1) = #[.slice (some ad) n c]) ∧ (isRow w' (w.heap.size + 1 + 1) ∧ rowAt w' (w.heap.size + 1 + 1) = #[.bool false]) ∧ (isRow w' (W1.heap.size + 1) ∧ rowAt w' (W1.heap.size + 1) = (En (stp (lst s l pre) (rd l pre.length)))) ∧ (isRow w' W1.heap.size ∧ rowAt w' W1.heap.size = (En s)) ∧ (isRow w' (W1.heap.size + 1 + 1) ∧ rowAt w' (W1.heap.size + 1 + 1) = #[.int .i64 pre.length]) ∧ (isRow w' W.heap.size ∧ rowAt w' W.heap.size = (En (stp (lst s l pre) (rd l pre.length)))) ∧ w'.cell? (ad.add pre.length) = some (.int .i64 (rd l pre.length)) ∧ AsideP (In3 w.heap.size (W1.heap.size + 1) (W1.heap.size + 1 + 1)) U w') (by kernel_rfl) (by kernel_rfl) (by rintro ⟨_, _, h_⟩; exact h_) ⟨⟨by go_simp, by go_simp⟩, ⟨by go_simp, by go_simp⟩, ⟨by go_simp, by go_simp⟩, ⟨by go_simp, by go_simp⟩, ⟨by go_simp, by go_simp⟩, ⟨by go_simp, by go_simp⟩, ⟨by go_simp, by go_simp⟩, by first | exact al0_3 | (go_simp; done), by go_simp⟩ (fun hHeld => ?_)
      refine wpAnyH_take (i := 1) (oi := ⟨some 30, .load 27 (.tmp 3), 27, "law.go:40", #[], none⟩) (v := ?_) rfl (by kernel_rfl) (by kernel_rfl) (by kernel_rfl) (fun _ _ _ h => h) (Or.inl ⟨by rfl, ?_⟩) (by assumption) ?_
      rotate_left
      · (intro w_ hS_; (try dsimp only at hS_); go_simp; try with_reducible rfl)
      try simp only [Act.put, List.setIfInBounds_toArray, List.set_cons_zero, List.set_cons_succ]
      refine wpAnyH_take (i := 2) (oi := ⟨some 31, .load 3 (.tmp 8), 3, "law.go:40", #[], none⟩) (v := ?_) rfl (by kernel_rfl) (by kernel_rfl) (by kernel_rfl) (fun _ _ _ h => h) (Or.inl ⟨by rfl, ?_⟩) (by assumption) ?_
      rotate_left
      · (intro w_ hS_; (try dsimp only at hS_); go_simp; try with_reducible rfl)
      try simp only [Act.put, List.setIfInBounds_toArray, List.set_cons_zero, List.set_cons_succ]
      refine wpAnyH_take (i := 3) (oi := ⟨some 32, .indexAddr 27 (.tmp 30) (.tmp 31), 0, "law.go:40", #[⟨1, .data⟩, ⟨2, .data⟩], none⟩) (v := ?_) rfl (by kernel_rfl) (by kernel_rfl) (by kernel_rfl) (fun _ _ _ h => h) (Or.inl ⟨by rfl, ?_⟩) (by assumption) ?_
      rotate_left
      · (intro w_ hS_; (try dsimp only at hS_); go_simp; try with_reducible rfl)
      try simp only [Act.put, List.setIfInBounds_toArray, List.set_cons_zero, List.set_cons_succ]
      refine wpAnyH_take (i := 4) (oi := ⟨some 33, .load 26 (.tmp 32), 26, "law.go:40", #[⟨3, .data⟩], none⟩) (v := ?_) rfl (by kernel_rfl) (by kernel_rfl) (by kernel_rfl) (fun _ _ _ h => h) (Or.inl ⟨by rfl, ?_⟩) (by assumption) ?_
      rotate_left
      · (intro w_ hS_; (try dsimp only at hS_); go_simp; try with_reducible rfl)
      try simp only [Act.put, List.setIfInBounds_toArray, List.set_cons_zero, List.set_cons_succ]
      refine wpAnyH_ready (rs := [0]) (by kernel_rfl) (by simp) ?_
      refine AllReadyH.cons (o := ⟨some 29, .load 23 (.tmp 2), 23, "law.go:40", #[], none⟩) rfl (fun K hK => ?_) AllReadyH.nil
      (have hq_ := hHeld; (try dsimp only at hq_))
      obtain ⟨⟨PS_4_1, PS_4_1'⟩, ⟨PA_4_1, PA_4_1'⟩, ⟨PB_4_1, PB_4_1'⟩, ⟨PR_4_1, PR_4_1'⟩, ⟨PF_4_1, PF_4_1'⟩, ⟨PN_4_1, PN_4_1'⟩, ⟨PX_4_1, PX_4_1'⟩, al0_4_1, hF_4_1⟩ := hq_
      go_simp
      refine hK.out _ _ ?_ (fun hHeld => ?_)
      · (refine ⟨⟨by go_simp, by go_simp⟩, ⟨by go_simp, by go_simp⟩, ⟨by go_simp, by go_simp⟩, ⟨by go_simp, by go_simp⟩, ⟨by go_simp, by go_simp⟩, ⟨by go_simp, by go_simp⟩, ⟨by go_simp, by go_simp⟩, by first | assumption | (go_simp; done), by go_simp⟩)
      clear hK K
      try simp only [Act.put, List.setIfInBounds_toArray, List.set_cons_zero, List.set_cons_succ]
      refine wpAnyH_ready (rs := [5]) (by kernel_rfl) (by simp) ?_
      refine AllReadyH.cons (o := ⟨some 34, .call ⟨.value (.func 11), #[.tmp 29, .tmp 33], #[23, 26]⟩, 23, "law.go:40", #[⟨0, .data⟩, ⟨4, .data⟩], none⟩) rfl (fun K hK => ?_) AllReadyH.nil
      (have hq_ := hHeld; (try dsimp only at hq_))
      obtain ⟨⟨PS_4_2, PS_4_2'⟩, ⟨PA_4_2, PA_4_2'⟩, ⟨PB_4_2, PB_4_2'⟩, ⟨PR_4_2, PR_4_2'⟩, ⟨PF_4_2, PF_4_2'⟩, ⟨PN_4_2, PN_4_2'⟩, ⟨PX_4_2, PX_4_2'⟩, al0_4_2, hF_4_2⟩ := hq_
      go_simp
      refine (step_c _ _ _).mono ?_
      rintro e u4_2 ⟨rfl, hb⟩
      refine hK.out _ _ ?_ (fun hHeld => ?_)
      · exact ⟨⟨rk1 PS_4_2 hb, by rw [rk3 PS_4_2 hb]; exact PS_4_2'⟩, ⟨rk1 PA_4_2 hb, rk2 PA_4_2 PA_4_2' hb⟩, ⟨rk1 PB_4_2 hb, rk2 PB_4_2 PB_4_2' hb⟩, ⟨rk1 PR_4_2 hb, rk2 PR_4_2 PR_4_2' hb⟩, ⟨rk1 PF_4_2 hb, rk2 PF_4_2 PF_4_2' hb⟩, ⟨rk1 PN_4_2 hb, rk2 PN_4_2 PN_4_2' hb⟩, ⟨rk1 PX_4_2 hb, rk2 PX_4_2 PX_4_2' hb⟩, cell_low al0_4_2 hb, AsideP.low hF_4_2 hb⟩
      clear hK K
      try simp only [Act.put, List.setIfInBounds_toArray, List.set_cons_zero, List.set_cons_succ]
      refine wpAnyH_ready (rs := [6]) (by kernel_rfl) (by simp) ?_
      refine AllReadyH.cons (o := ⟨none, .store 23 (.tmp 2) (.tmp 34), 0, "law.go:40", #[⟨5, .data⟩, ⟨5, .chain⟩, ⟨0, .phase⟩, ⟨1, .phase⟩, ⟨2, .phase⟩, ⟨3, .phase⟩, ⟨4, .phase⟩, ⟨5, .phase⟩], none⟩) rfl (fun K hK => ?_) AllReadyH.nil
      (have hq_ := hHeld; (try dsimp only at hq_))
      obtain ⟨⟨PS_4_3, PS_4_3'⟩, ⟨PA_4_3, PA_4_3'⟩, ⟨PB_4_3, PB_4_3'⟩, ⟨PR_4_3, PR_4_3'⟩, ⟨PF_4_3, PF_4_3'⟩, ⟨PN_4_3, PN_4_3'⟩, ⟨PX_4_3, PX_4_3'⟩, al0_4_3, hF_4_3⟩ := hq_
      go_simp
      refine hK.out _ _ ?_ (fun hHeld => ?_)
      · (refine ⟨⟨by go_simp, by go_simp⟩, ⟨by go_simp, by go_simp⟩, ⟨by go_simp, by go_simp⟩, ⟨by go_simp, by go_simp⟩, ⟨by go_simp, by go_simp⟩, ⟨by go_simp, by go_simp⟩, ⟨by go_simp, by go_simp⟩, by first | assumption | (go_simp; done), by go_simp⟩)
      clear hK K
      try simp only [Act.put, List.setIfInBounds_toArray, List.set_cons_zero, List.set_cons_succ]
      refine wpAnyH_done (by kernel_rfl) ?_ _
      (try dsimp only at hHeld)
      go_split_ands
      gi_wp2_with fail
      refine wpIn_named (fun W_ => (isRow W_ w.heap.size ∧ rowAt W_ w.heap.size = (En (stp (lst s l pre) (rd l pre.length)))) ∧ (isRow W_ (w.heap.size + 1) ∧ rowAt W_ (w.heap.size + 1) = #[.slice (some ad) n c]) ∧ (isRow W_ (w.heap.size + 1 + 1) ∧ rowAt W_ (w.heap.size + 1 + 1) = #[.bool false]) ∧ (isRow W_ (W1.heap.size + 1) ∧ rowAt W_ (W1.heap.size + 1) = (En (stp (lst s l pre) (rd l pre.length)))) ∧ (isRow W_ W1.heap.size ∧ rowAt W_ W1.heap.size = (En s)) ∧ (isRow W_ (W1.heap.size + 1 + 1) ∧ rowAt W_ (W1.heap.size + 1 + 1) = #[.int .i64 (pre.length + 1)]) ∧ (isRow W_ W.heap.size ∧ rowAt W_ W.heap.size = (En (stp (lst s l pre) (rd l pre.length)))) ∧ AsideP (In3 w.heap.size (W1.heap.size + 1) (W1.heap.size + 1 + 1)) U W_) (by refine ⟨⟨by go_simp, by go_simp⟩, ⟨by go_simp, by go_simp⟩, ⟨by go_simp, by go_simp⟩, ⟨by go_simp, by go_simp⟩, ⟨by go_simp, by go_simp⟩, ⟨by go_simp, by go_simp⟩, ⟨by go_simp, by go_simp⟩, by go_simp⟩) ?_
      rintro v5 ⟨⟨S_5, S_5'⟩, ⟨A_5, A_5'⟩, ⟨B_5, B_5'⟩, ⟨R_5, R_5'⟩, ⟨F_5, F_5'⟩, ⟨N_5, N_5'⟩, ⟨X_5, X_5'⟩, hB_5⟩
      have hz_5 : U.heap.size ≤ v5.heap.size := hB_5.size
      have hl_S_5 := isRow.lt S_5
      have ne_S_5_0 : ¬ w.heap.size = v5.heap.size := by omega
      have en_S_5_0 : ¬ v5.heap.size = w.heap.size := by omega
      have hl_A_5 := isRow.lt A_5
      have ne_A_5_0 : ¬ (w.heap.size + 1) = v5.heap.size := by omega
      have en_A_5_0 : ¬ v5.heap.size = (w.heap.size + 1) := by omega
      have hl_B_5 := isRow.lt B_5
      have ne_B_5_0 : ¬ (w.heap.size + 1 + 1) = v5.heap.size := by omega
      have en_B_5_0 : ¬ v5.heap.size = (w.heap.size + 1 + 1) := by omega
      have hl_R_5 := isRow.lt R_5
      have ne_R_5_0 : ¬ (W1.heap.size + 1) = v5.heap.size := by omega
      have en_R_5_0 : ¬ v5.heap.size = (W1.heap.size + 1) := by omega
      have hl_F_5 := isRow.lt F_5
      have ne_F_5_0 : ¬ W1.heap.size = v5.heap.size := by omega
      have en_F_5_0 : ¬ v5.heap.size = W1.heap.size := by omega
      have hl_N_5 := isRow.lt N_5
      have ne_N_5_0 : ¬ (W1.heap.size + 1 + 1) = v5.heap.size := by omega
      have en_N_5_0 : ¬ v5.heap.size = (W1.heap.size + 1 + 1) := by omega
      have hl_X_5 := isRow.lt X_5
      have ne_X_5_0 : ¬ W.heap.size = v5.heap.size := by omega
      have en_X_5_0 : ¬ v5.heap.size = W.heap.size := by omega
      refine wpIn_region_held (S := fun w' => isRow w' w.heap.size ∧ rowAt w' w.heap.size = (En (stp (lst s l pre) (rd l pre.length))) ∧ isRow w' (w.heap.size + 1) ∧ rowAt w' (w.heap.size + 1) = #[.slice (some ad) n c] ∧ isRow w' (w.heap.size + 1 + 1) ∧ rowAt w' (w.heap.size + 1 + 1) = #[.bool false] ∧ isRow w' (W1.heap.size + 1) ∧ rowAt w' (W1.heap.size + 1) = (En (stp (lst s l pre) (rd l pre.length))) ∧ isRow w' W1.heap.size ∧ rowAt w' W1.heap.size = (En s) ∧ isRow w' (W1.heap.size + 1 + 1) ∧ rowAt w' (W1.heap.size + 1 + 1) = #[.int .i64 (pre.length + 1)] ∧ isRow w' W.heap.size ∧ rowAt w' W.heap.size = (En (stp (lst s l pre) (rd l pre.length))) ∧ AsideP (In3 w.heap.size (W1.heap.size + 1) (W1.heap.size + 1 + 1)) U w') (by kernel_rfl) (by kernel_rfl) (by rintro ⟨_, _, h_⟩; exact h_) ⟨S_5, S_5', A_5, A_5', B_5, B_5', R_5, R_5', F_5, F_5', N_5, N_5', X_5, X_5', by go_simp⟩ (fun hHeld => ?_)
      refine wpAnyH_take (i := 0) (oi := ⟨some 37, .load 23 (.tmp 9), 23, "law.go:42", #[], none⟩) (v := ?_) rfl (by kernel_rfl) (by kernel_rfl) (by kernel_rfl) (fun _ _ _ h => h) (Or.inl ⟨by rfl, ?_⟩) (by assumption) ?_
      rotate_left
      · (intro w_ hS_; (try dsimp only at hS_); go_simp; try with_reducible rfl)
      try simp only [Act.put, List.setIfInBounds_toArray, List.set_cons_zero, List.set_cons_succ]
      refine wpAnyH_take (i := 1) (oi := ⟨some 38, .load 23 (.tmp 6), 23, "law.go:42", #[], none⟩) (v := ?_) rfl (by kernel_rfl) (by kernel_rfl) (by kernel_rfl) (fun _ _ _ h => h) (Or.inl ⟨by rfl, ?_⟩) (by assumption) ?_
      rotate_left
      · (intro w_ hS_; (try dsimp only at hS_); go_simp; try with_reducible rfl)
      try simp only [Act.put, List.setIfInBounds_toArray, List.set_cons_zero, List.set_cons_succ]
      refine wpAnyH_take (i := 2) (oi := ⟨some 39, .binOp .neq 23 (.tmp 37) (.tmp 38) 23, 4, "law.go:42", #[⟨0, .data⟩, ⟨1, .data⟩], none⟩) (v := ?_) rfl (by kernel_rfl) (by kernel_rfl) (by kernel_rfl) (fun _ _ _ h => h) (Or.inl ⟨by rfl, ?_⟩) (by assumption) ?_
      rotate_left
      · (intro w_ hS_; (try dsimp only at hS_); go_simp; try with_reducible rfl)
      try simp only [Act.put, List.setIfInBounds_toArray, List.set_cons_zero, List.set_cons_succ]
      refine wpAnyH_take (i := 3) (oi := ⟨some 40, .move (.tmp 39), 4, "law.go:42", #[⟨2, .data⟩], none⟩) (v := ?_) rfl (by kernel_rfl) (by kernel_rfl) (by kernel_rfl) (fun _ _ _ h => h) (Or.inl ⟨by rfl, ?_⟩) (by assumption) ?_
      rotate_left
      · (intro w_ hS_; (try dsimp only at hS_); go_simp; try with_reducible rfl)
      try simp only [Act.put, List.setIfInBounds_toArray, List.set_cons_zero, List.set_cons_succ]
      refine wpAnyH_take (i := 4) (oi := ⟨some 41, .load 23 (.tmp 2), 23, "law.go:42", #[⟨3, .guard⟩], some (3, false)⟩) (v := ?_) rfl (by kernel_rfl) (by kernel_rfl) (by kernel_rfl) (fun _ _ _ h => h) (Or.inl ⟨by rfl, ?_⟩) (by assumption) ?_
      rotate_left
      · (intro w_ hS_; (try dsimp only at hS_); go_simp; try with_reducible rfl)
      try simp only [Act.put, List.setIfInBounds_toArray, List.set_cons_zero, List.set_cons_succ]
      refine wpAnyH_take (i := 5) (oi := ⟨some 42, .load 23 (.tmp 6), 23, "law.go:42", #[⟨3, .guard⟩], some (3, false)⟩) (v := ?_) rfl (by kernel_rfl) (by kernel_rfl) (by kernel_rfl) (fun _ _ _ h => h) (Or.inl ⟨by rfl, ?_⟩) (by assumption) ?_
      rotate_left
      · (intro w_ hS_; (try dsimp only at hS_); go_simp; try with_reducible rfl)
      try simp only [Act.put, List.setIfInBounds_toArray, List.set_cons_zero, List.set_cons_succ]
      refine wpAnyH_take (i := 6) (oi := ⟨some 43, .binOp .neq 23 (.tmp 41) (.tmp 42) 23, 4, "law.go:42", #[⟨4, .data⟩, ⟨5, .data⟩, ⟨3, .guard⟩], some (3, false)⟩) (v := ?_) rfl (by kernel_rfl) (by kernel_rfl) (by kernel_rfl) (fun _ _ _ h => h) (Or.inl ⟨by rfl, ?_⟩) (by assumption) ?_
      rotate_left
      · (intro w_ hS_; (try dsimp only at hS_); go_simp; try with_reducible rfl)
      try simp only [Act.put, List.setIfInBounds_toArray, List.set_cons_zero, List.set_cons_succ]
      refine wpAnyH_take (i := 7) (oi := ⟨some 44, .pick (.tmp 40) (.const (.bool true)) (.tmp 43), 4, "law.go:42", #[⟨3, .data⟩, ⟨6, .data⟩], none⟩) (v := ?_) rfl (by kernel_rfl) (by kernel_rfl) (by kernel_rfl) (fun _ _ _ h => h) (Or.inl ⟨by rfl, ?_⟩) (by assumption) ?_
      rotate_left
      · (intro w_ hS_; (try dsimp only at hS_); go_simp; try with_reducible rfl)
      try simp only [Act.put, List.setIfInBounds_toArray, List.set_cons_zero, List.set_cons_succ]
      refine wpAnyH_take (i := 8) (oi := ⟨some 45, .move (.tmp 44), 4, "law.go:42", #[⟨7, .data⟩, ⟨3, .chain⟩], none⟩) (v := ?_) rfl (by kernel_rfl) (by kernel_rfl) (by kernel_rfl) (fun _ _ _ h => h) (Or.inl ⟨by rfl, ?_⟩) (by assumption) ?_
      rotate_left
      · (intro w_ hS_; (try dsimp only at hS_); go_simp; try with_reducible rfl)
      try simp only [Act.put, List.setIfInBounds_toArray, List.set_cons_zero, List.set_cons_succ]
      refine wpAnyH_take (i := 9) (oi := ⟨some 46, .load 23 (.tmp 9), 23, "law.go:42", #[⟨8, .guard⟩], some (8, false)⟩) (v := ?_) rfl (by kernel_rfl) (by kernel_rfl) (by kernel_rfl) (fun _ _ _ h => h) (Or.inl ⟨by rfl, ?_⟩) (by assumption) ?_
      rotate_left
      · (intro w_ hS_; (try dsimp only at hS_); go_simp; try with_reducible rfl)
      try simp only [Act.put, List.setIfInBounds_toArray, List.set_cons_zero, List.set_cons_succ]
      refine wpAnyH_take (i := 11) (oi := ⟨some 48, .load 23 (.tmp 6), 23, "law.go:42", #[⟨8, .guard⟩], some (8, false)⟩) (v := ?_) rfl (by kernel_rfl) (by kernel_rfl) (by kernel_rfl) (fun _ _ _ h => h) (Or.inl ⟨by rfl, ?_⟩) (by assumption) ?_
      rotate_left
      · (intro w_ hS_; (try dsimp only at hS_); go_simp; try with_reducible rfl)
      try simp only [Act.put, List.setIfInBounds_toArray, List.set_cons_zero, List.set_cons_succ]
      refine wpAnyH_ready (rs := [10]) (by kernel_rfl) (by simp) ?_
      refine AllReadyH.cons (o := ⟨some 47, .call ⟨.value (.func 13), #[.tmp 46], #[23]⟩, 4, "law.go:42", #[⟨9, .data⟩, ⟨8, .chain⟩, ⟨8, .guard⟩], some (8, false)⟩) rfl (fun K hK => ?_) AllReadyH.nil
      go_simp
      (have hq_ := hHeld; (try dsimp only at hq_); go_split_ands)
      refine (pend_c _ _).mono ?_
      rintro e w4 ⟨rfl, hb⟩
      refine hK.out _ _ ?_ (fun hHeld => ?_)
      · (go_split_ands; exact ⟨rk1 (by assumption) hb, rk2 (by assumption) (by assumption) hb, rk1 (by assumption) hb, rk2 (by assumption) (by assumption) hb, rk1 (by assumption) hb, rk2 (by assumption) (by assumption) hb, rk1 (by assumption) hb, rk2 (by assumption) (by assumption) hb, rk1 (by assumption) hb, rk2 (by assumption) (by assumption) hb, rk1 (by assumption) hb, rk2 (by assumption) (by assumption) hb, rk1 (by assumption) hb, rk2 (by assumption) (by assumption) hb, AsideP.low (by assumption) hb⟩)
      clear hK K
      try simp only [Act.put, List.setIfInBounds_toArray, List.set_cons_zero, List.set_cons_succ]
      refine wpAnyH_ready (rs := [12]) (by kernel_rfl) (by simp) ?_
      refine AllReadyH.cons (o := ⟨some 49, .call ⟨.value (.func 22), #[.tmp 48], #[23]⟩, 4, "law.go:42", #[⟨11, .data⟩, ⟨10, .chain⟩, ⟨8, .guard⟩], some (8, false)⟩) rfl (fun K hK => ?_) AllReadyH.nil
      go_simp
      (have hq_ := hHeld; (try dsimp only at hq_); go_split_ands)
      refine (rpend_c _ _).mono ?_
      rintro e w4 ⟨rfl, hb⟩
      refine hK.out _ _ ?_ (fun hHeld => ?_)
      · (go_split_ands; exact ⟨rk1 (by assumption) hb, rk2 (by assumption) (by assumption) hb, rk1 (by assumption) hb, rk2 (by assumption) (by assumption) hb, rk1 (by assumption) hb, rk2 (by assumption) (by assumption) hb, rk1 (by assumption) hb, rk2 (by assumption) (by assumption) hb, rk1 (by assumption) hb, rk2 (by assumption) (by assumption) hb, rk1 (by assumption) hb, rk2 (by assumption) (by assumption) hb, rk1 (by assumption) hb, rk2 (by assumption) (by assumption) hb, AsideP.low (by assumption) hb⟩)
      clear hK K
      try simp only [Act.put, List.setIfInBounds_toArray, List.set_cons_zero, List.set_cons_succ]
      refine wpAnyH_take (i := 13) (oi := ⟨some 50, .binOp .neq 4 (.tmp 47) (.tmp 49) 4, 4, "law.go:42", #[⟨10, .data⟩, ⟨12, .data⟩, ⟨8, .guard⟩], some (8, false)⟩) (v := ?_) rfl (by kernel_rfl) (by kernel_rfl) (by kernel_rfl) (fun _ _ _ h => h) (Or.inl ⟨by rfl, ?_⟩) (by assumption) ?_
      rotate_left
      · (intro w_ hS_; (try dsimp only at hS_); go_simp; try with_reducible rfl)
      try simp only [Act.put, List.setIfInBounds_toArray, List.set_cons_zero, List.set_cons_succ]
      refine wpAnyH_take (i := 14) (oi := ⟨some 51, .pick (.tmp 45) (.const (.bool true)) (.tmp 50), 4, "law.go:42", #[⟨8, .data⟩, ⟨13, .data⟩], none⟩) (v := ?_) rfl (by kernel_rfl) (by kernel_rfl) (by kernel_rfl) (fun _ _ _ h => h) (Or.inl ⟨by rfl, ?_⟩) (by assumption) ?_
      rotate_left
      · (intro w_ hS_; (try dsimp only at hS_); go_simp; try with_reducible rfl)
      try simp only [Act.put, List.setIfInBounds_toArray, List.set_cons_zero, List.set_cons_succ]
      refine wpAnyH_take (i := 15) (oi := ⟨some 52, .move (.tmp 51), 4, "law.go:42", #[⟨14, .data⟩, ⟨12, .chain⟩], none⟩) (v := ?_) rfl (by kernel_rfl) (by kernel_rfl) (by kernel_rfl) (fun _ _ _ h => h) (Or.inl ⟨by rfl, ?_⟩) (by assumption) ?_
      rotate_left
      · (intro w_ hS_; (try dsimp only at hS_); go_simp; try with_reducible rfl)
      try simp only [Act.put, List.setIfInBounds_toArray, List.set_cons_zero, List.set_cons_succ]
      refine wpAnyH_take (i := 16) (oi := ⟨some 53, .load 23 (.tmp 9), 23, "law.go:42", #[⟨15, .guard⟩], some (15, false)⟩) (v := ?_) rfl (by kernel_rfl) (by kernel_rfl) (by kernel_rfl) (fun _ _ _ h => h) (Or.inl ⟨by rfl, ?_⟩) (by assumption) ?_
      rotate_left
      · (intro w_ hS_; (try dsimp only at hS_); go_simp; try with_reducible rfl)
      try simp only [Act.put, List.setIfInBounds_toArray, List.set_cons_zero, List.set_cons_succ]
      refine wpAnyH_take (i := 18) (oi := ⟨some 55, .load 23 (.tmp 6), 23, "law.go:42", #[⟨15, .guard⟩], some (15, false)⟩) (v := ?_) rfl (by kernel_rfl) (by kernel_rfl) (by kernel_rfl) (fun _ _ _ h => h) (Or.inl ⟨by rfl, ?_⟩) (by assumption) ?_
      rotate_left
      · (intro w_ hS_; (try dsimp only at hS_); go_simp; try with_reducible rfl)
      try simp only [Act.put, List.setIfInBounds_toArray, List.set_cons_zero, List.set_cons_succ]
      refine wpAnyH_ready (rs := [17]) (by kernel_rfl) (by simp) ?_
      refine AllReadyH.cons (o := ⟨some 54, .call ⟨.value (.func 12), #[.tmp 53], #[23]⟩, 4, "law.go:42", #[⟨16, .data⟩, ⟨15, .chain⟩, ⟨15, .guard⟩], some (15, false)⟩) rfl (fun K hK => ?_) AllReadyH.nil
      go_simp
      (have hq_ := hHeld; (try dsimp only at hq_); go_split_ands)
      refine (ready_c _ _).mono ?_
      rintro e w4 ⟨rfl, hb⟩
      refine hK.out _ _ ?_ (fun hHeld => ?_)
      · (go_split_ands; exact ⟨rk1 (by assumption) hb, rk2 (by assumption) (by assumption) hb, rk1 (by assumption) hb, rk2 (by assumption) (by assumption) hb, rk1 (by assumption) hb, rk2 (by assumption) (by assumption) hb, rk1 (by assumption) hb, rk2 (by assumption) (by assumption) hb, rk1 (by assumption) hb, rk2 (by assumption) (by assumption) hb, rk1 (by assumption) hb, rk2 (by assumption) (by assumption) hb, rk1 (by assumption) hb, rk2 (by assumption) (by assumption) hb, AsideP.low (by assumption) hb⟩)
      clear hK K
      try simp only [Act.put, List.setIfInBounds_toArray, List.set_cons_zero, List.set_cons_succ]
      refine wpAnyH_ready (rs := [19]) (by kernel_rfl) (by simp) ?_
      refine AllReadyH.cons (o := ⟨some 56, .call ⟨.value (.func 23), #[.tmp 55], #[23]⟩, 4, "law.go:42", #[⟨18, .data⟩, ⟨17, .chain⟩, ⟨15, .guard⟩], some (15, false)⟩) rfl (fun K hK => ?_) AllReadyH.nil
      go_simp
      (have hq_ := hHeld; (try dsimp only at hq_); go_split_ands)
      refine (rready_c _ _).mono ?_
      rintro e w4 ⟨rfl, hb⟩
      refine hK.out _ _ ?_ (fun hHeld => ?_)
      · (go_split_ands; exact ⟨rk1 (by assumption) hb, rk2 (by assumption) (by assumption) hb, rk1 (by assumption) hb, rk2 (by assumption) (by assumption) hb, rk1 (by assumption) hb, rk2 (by assumption) (by assumption) hb, rk1 (by assumption) hb, rk2 (by assumption) (by assumption) hb, rk1 (by assumption) hb, rk2 (by assumption) (by assumption) hb, rk1 (by assumption) hb, rk2 (by assumption) (by assumption) hb, rk1 (by assumption) hb, rk2 (by assumption) (by assumption) hb, AsideP.low (by assumption) hb⟩)
      clear hK K
      try simp only [Act.put, List.setIfInBounds_toArray, List.set_cons_zero, List.set_cons_succ]
      refine wpAnyH_take (i := 20) (oi := ⟨some 57, .binOp .neq 4 (.tmp 54) (.tmp 56) 4, 4, "law.go:42", #[⟨17, .data⟩, ⟨19, .data⟩, ⟨15, .guard⟩], some (15, false)⟩) (v := ?_) rfl (by kernel_rfl) (by kernel_rfl) (by kernel_rfl) (fun _ _ _ h => h) (Or.inl ⟨by rfl, ?_⟩) (by assumption) ?_
      rotate_left
      · (intro w_ hS_; (try dsimp only at hS_); go_simp; try with_reducible rfl)
      try simp only [Act.put, List.setIfInBounds_toArray, List.set_cons_zero, List.set_cons_succ]
      refine wpAnyH_take (i := 21) (oi := ⟨some 58, .pick (.tmp 52) (.const (.bool true)) (.tmp 57), 4, "law.go:42", #[⟨15, .data⟩, ⟨20, .data⟩], none⟩) (v := ?_) rfl (by kernel_rfl) (by kernel_rfl) (by kernel_rfl) (fun _ _ _ h => h) (Or.inl ⟨by rfl, ?_⟩) (by assumption) ?_
      rotate_left
      · (intro w_ hS_; (try dsimp only at hS_); go_simp; try with_reducible rfl)
      try simp only [Act.put, List.setIfInBounds_toArray, List.set_cons_zero, List.set_cons_succ]
      refine wpAnyH_take (i := 22) (oi := ⟨some 59, .move (.tmp 58), 4, "law.go:42", #[⟨21, .data⟩, ⟨19, .chain⟩], none⟩) (v := ?_) rfl (by kernel_rfl) (by kernel_rfl) (by kernel_rfl) (fun _ _ _ h => h) (Or.inl ⟨by rfl, ?_⟩) (by assumption) ?_
      rotate_left
      · (intro w_ hS_; (try dsimp only at hS_); go_simp; try with_reducible rfl)
      try simp only [Act.put, List.setIfInBounds_toArray, List.set_cons_zero, List.set_cons_succ]
      refine wpAnyH_take (i := 23) (oi := ⟨some 60, .load 23 (.tmp 9), 23, "law.go:42", #[⟨22, .guard⟩], some (22, false)⟩) (v := ?_) rfl (by kernel_rfl) (by kernel_rfl) (by kernel_rfl) (fun _ _ _ h => h) (Or.inl ⟨by rfl, ?_⟩) (by assumption) ?_
      rotate_left
      · (intro w_ hS_; (try dsimp only at hS_); go_simp; try with_reducible rfl)
      try simp only [Act.put, List.setIfInBounds_toArray, List.set_cons_zero, List.set_cons_succ]
      refine wpAnyH_take (i := 25) (oi := ⟨some 62, .load 23 (.tmp 6), 23, "law.go:42", #[⟨22, .guard⟩], some (22, false)⟩) (v := ?_) rfl (by kernel_rfl) (by kernel_rfl) (by kernel_rfl) (fun _ _ _ h => h) (Or.inl ⟨by rfl, ?_⟩) (by assumption) ?_
      rotate_left
      · (intro w_ hS_; (try dsimp only at hS_); go_simp; try with_reducible rfl)
      try simp only [Act.put, List.setIfInBounds_toArray, List.set_cons_zero, List.set_cons_succ]
      refine wpAnyH_ready (rs := [24]) (by kernel_rfl) (by simp) ?_
      refine AllReadyH.cons (o := ⟨some 61, .call ⟨.value (.func 14), #[.tmp 60], #[23]⟩, 3, "law.go:42", #[⟨23, .data⟩, ⟨22, .chain⟩, ⟨22, .guard⟩], some (22, false)⟩) rfl (fun K hK => ?_) AllReadyH.nil
      go_simp
      (have hq_ := hHeld; (try dsimp only at hq_); go_split_ands)
      refine (phase_c _ _).mono ?_
      rintro e w4 ⟨rfl, hb⟩
      refine hK.out _ _ ?_ (fun hHeld => ?_)
      · (go_split_ands; exact ⟨rk1 (by assumption) hb, rk2 (by assumption) (by assumption) hb, rk1 (by assumption) hb, rk2 (by assumption) (by assumption) hb, rk1 (by assumption) hb, rk2 (by assumption) (by assumption) hb, rk1 (by assumption) hb, rk2 (by assumption) (by assumption) hb, rk1 (by assumption) hb, rk2 (by assumption) (by assumption) hb, rk1 (by assumption) hb, rk2 (by assumption) (by assumption) hb, rk1 (by assumption) hb, rk2 (by assumption) (by assumption) hb, AsideP.low (by assumption) hb⟩)
      clear hK K
      try simp only [Act.put, List.setIfInBounds_toArray, List.set_cons_zero, List.set_cons_succ]
      refine wpAnyH_ready (rs := [26]) (by kernel_rfl) (by simp) ?_
      refine AllReadyH.cons (o := ⟨some 63, .call ⟨.value (.func 19), #[.tmp 62], #[23]⟩, 3, "law.go:42", #[⟨25, .data⟩, ⟨24, .chain⟩, ⟨22, .guard⟩], some (22, false)⟩) rfl (fun K hK => ?_) AllReadyH.nil
      go_simp
      (have hq_ := hHeld; (try dsimp only at hq_); go_split_ands)
      refine (rphase_c _ _).mono ?_
      rintro e w4 ⟨rfl, hb⟩
      refine hK.out _ _ ?_ (fun hHeld => ?_)
      · (go_split_ands; exact ⟨rk1 (by assumption) hb, rk2 (by assumption) (by assumption) hb, rk1 (by assumption) hb, rk2 (by assumption) (by assumption) hb, rk1 (by assumption) hb, rk2 (by assumption) (by assumption) hb, rk1 (by assumption) hb, rk2 (by assumption) (by assumption) hb, rk1 (by assumption) hb, rk2 (by assumption) (by assumption) hb, rk1 (by assumption) hb, rk2 (by assumption) (by assumption) hb, rk1 (by assumption) hb, rk2 (by assumption) (by assumption) hb, AsideP.low (by assumption) hb⟩)
      clear hK K
      try simp only [Act.put, List.setIfInBounds_toArray, List.set_cons_zero, List.set_cons_succ]
      refine wpAnyH_take (i := 27) (oi := ⟨some 64, .binOp .neq 3 (.tmp 61) (.tmp 63) 3, 4, "law.go:42", #[⟨24, .data⟩, ⟨26, .data⟩, ⟨22, .guard⟩], some (22, false)⟩) (v := ?_) rfl (by kernel_rfl) (by kernel_rfl) (by kernel_rfl) (fun _ _ _ h => h) (Or.inl ⟨by rfl, ?_⟩) (by assumption) ?_
      rotate_left
      · (intro w_ hS_; (try dsimp only at hS_); go_simp; try with_reducible rfl)
      try simp only [Act.put, List.setIfInBounds_toArray, List.set_cons_zero, List.set_cons_succ]
      refine wpAnyH_take (i := 28) (oi := ⟨some 65, .pick (.tmp 59) (.const (.bool true)) (.tmp 64), 4, "law.go:42", #[⟨22, .data⟩, ⟨27, .data⟩], none⟩) (v := ?_) rfl (by kernel_rfl) (by kernel_rfl) (by kernel_rfl) (fun _ _ _ h => h) (Or.inl ⟨by rfl, ?_⟩) (by assumption) ?_
      rotate_left
      · (intro w_ hS_; (try dsimp only at hS_); go_simp; try with_reducible rfl)
      try simp only [Act.put, List.setIfInBounds_toArray, List.set_cons_zero, List.set_cons_succ]
      refine wpAnyH_take (i := 29) (oi := ⟨some 66, .move (.tmp 65), 4, "law.go:42", #[⟨28, .data⟩, ⟨26, .chain⟩], none⟩) (v := ?_) rfl (by kernel_rfl) (by kernel_rfl) (by kernel_rfl) (fun _ _ _ h => h) (Or.inl ⟨by rfl, ?_⟩) (by assumption) ?_
      rotate_left
      · (intro w_ hS_; (try dsimp only at hS_); go_simp; try with_reducible rfl)
      try simp only [Act.put, List.setIfInBounds_toArray, List.set_cons_zero, List.set_cons_succ]
      refine wpAnyH_take (i := 30) (oi := ⟨some 67, .load 23 (.tmp 9), 23, "law.go:42", #[⟨29, .guard⟩], some (29, false)⟩) (v := ?_) rfl (by kernel_rfl) (by kernel_rfl) (by kernel_rfl) (fun _ _ _ h => h) (Or.inl ⟨by rfl, ?_⟩) (by assumption) ?_
      rotate_left
      · (intro w_ hS_; (try dsimp only at hS_); go_simp; try with_reducible rfl)
      try simp only [Act.put, List.setIfInBounds_toArray, List.set_cons_zero, List.set_cons_succ]
      refine wpAnyH_take (i := 32) (oi := ⟨some 69, .load 23 (.tmp 6), 23, "law.go:42", #[⟨29, .guard⟩], some (29, false)⟩) (v := ?_) rfl (by kernel_rfl) (by kernel_rfl) (by kernel_rfl) (fun _ _ _ h => h) (Or.inl ⟨by rfl, ?_⟩) (by assumption) ?_
      rotate_left
      · (intro w_ hS_; (try dsimp only at hS_); go_simp; try with_reducible rfl)
      try simp only [Act.put, List.setIfInBounds_toArray, List.set_cons_zero, List.set_cons_succ]
      refine wpAnyH_ready (rs := [31]) (by kernel_rfl) (by simp) ?_
      refine AllReadyH.cons (o := ⟨some 68, .call ⟨.value (.func 17), #[.tmp 67], #[23]⟩, 9, "law.go:42", #[⟨30, .data⟩, ⟨29, .chain⟩, ⟨29, .guard⟩], some (29, false)⟩) rfl (fun K hK => ?_) AllReadyH.nil
      go_simp
      (have hq_ := hHeld; (try dsimp only at hq_); go_split_ands)
      refine (text_c _ _).mono ?_
      rintro e w4 ⟨rfl, hb⟩
      refine hK.out _ _ ?_ (fun hHeld => ?_)
      · (go_split_ands; exact ⟨rk1 (by assumption) hb, rk2 (by assumption) (by assumption) hb, rk1 (by assumption) hb, rk2 (by assumption) (by assumption) hb, rk1 (by assumption) hb, rk2 (by assumption) (by assumption) hb, rk1 (by assumption) hb, rk2 (by assumption) (by assumption) hb, rk1 (by assumption) hb, rk2 (by assumption) (by assumption) hb, rk1 (by assumption) hb, rk2 (by assumption) (by assumption) hb, rk1 (by assumption) hb, rk2 (by assumption) (by assumption) hb, AsideP.low (by assumption) hb⟩)
      clear hK K
      try simp only [Act.put, List.setIfInBounds_toArray, List.set_cons_zero, List.set_cons_succ]
      refine wpAnyH_ready (rs := [33]) (by kernel_rfl) (by simp) ?_
      refine AllReadyH.cons (o := ⟨some 70, .call ⟨.value (.func 24), #[.tmp 69], #[23]⟩, 9, "law.go:42", #[⟨32, .data⟩, ⟨31, .chain⟩, ⟨29, .guard⟩], some (29, false)⟩) rfl (fun K hK => ?_) AllReadyH.nil
      go_simp
      (have hq_ := hHeld; (try dsimp only at hq_); go_split_ands)
      refine (rtext_c _ _).mono ?_
      rintro e w4 ⟨rfl, hb⟩
      refine hK.out _ _ ?_ (fun hHeld => ?_)
      · (go_split_ands; exact ⟨rk1 (by assumption) hb, rk2 (by assumption) (by assumption) hb, rk1 (by assumption) hb, rk2 (by assumption) (by assumption) hb, rk1 (by assumption) hb, rk2 (by assumption) (by assumption) hb, rk1 (by assumption) hb, rk2 (by assumption) (by assumption) hb, rk1 (by assumption) hb, rk2 (by assumption) (by assumption) hb, rk1 (by assumption) hb, rk2 (by assumption) (by assumption) hb, rk1 (by assumption) hb, rk2 (by assumption) (by assumption) hb, AsideP.low (by assumption) hb⟩)
      clear hK K
      try simp only [Act.put, List.setIfInBounds_toArray, List.set_cons_zero, List.set_cons_succ]
      refine wpAnyH_take (i := 34) (oi := ⟨some 71, .binOp .neq 9 (.tmp 68) (.tmp 70) 9, 4, "law.go:42", #[⟨31, .data⟩, ⟨33, .data⟩, ⟨29, .guard⟩], some (29, false)⟩) (v := ?_) rfl (by kernel_rfl) (by kernel_rfl) (by kernel_rfl) (fun _ _ _ h => h) (Or.inl ⟨by rfl, ?_⟩) (by assumption) ?_
      rotate_left
      · (intro w_ hS_; (try dsimp only at hS_); go_simp; try with_reducible rfl)
      try simp only [Act.put, List.setIfInBounds_toArray, List.set_cons_zero, List.set_cons_succ]
      refine wpAnyH_take (i := 35) (oi := ⟨some 72, .pick (.tmp 66) (.const (.bool true)) (.tmp 71), 4, "law.go:42", #[⟨29, .data⟩, ⟨34, .data⟩], none⟩) (v := ?_) rfl (by kernel_rfl) (by kernel_rfl) (by kernel_rfl) (fun _ _ _ h => h) (Or.inl ⟨by rfl, ?_⟩) (by assumption) ?_
      rotate_left
      · (intro w_ hS_; (try dsimp only at hS_); go_simp; try with_reducible rfl)
      try simp only [Act.put, List.setIfInBounds_toArray, List.set_cons_zero, List.set_cons_succ]
      refine wpAnyH_done (by kernel_rfl) ?_ _
      (try dsimp only at hHeld)
      go_split_ands
      gi_wp2_with fail
      refine ⟨KeepsFrom.aside (P := In3 w.heap.size (W1.heap.size + 1) (W1.heap.size + 1 + 1)) (by assumption) (fun k hk => by unfold In3 at hk; omega), KeepC.aside (by assumption), ?_⟩
      dsimp only
      rw [hq, hlenI]
      exact ⟨⟨by assumption, by assumption⟩, ⟨by assumption, by assumption⟩, ⟨by assumption, by assumption⟩, ⟨by assumption, by assumption⟩, ⟨by assumption, by assumption⟩, ⟨by assumption, by assumption⟩, AsideP.below (P := In3 w.heap.size (W1.heap.size + 1) (W1.heap.size + 1 + 1)) (by assumption) hBU (fun k hk => by unfold In3 at hk; omega) hBU.size⟩
    case done =>
      rintro D W hD ⟨⟨c1, c1'⟩, ⟨c2, c2'⟩, ⟨c3, c3'⟩, ⟨c4, c4'⟩, ⟨c5, c5'⟩, ⟨c6, c6'⟩, hBW⟩ hK
      rw [lst_full] at c1' c4'
      rw [sts_len] at c6'
      clear y1 y2 y3 y4 y5 y6 y7 y8
      have eD : ¬ D = (w.heap.size + 1 + 1) := by omega
      have hDw : w.heap.size ≤ D := by omega
      have pn01 : ¬ w.heap.size = w.heap.size + 1 := by omega
      have pn02 : ¬ w.heap.size = w.heap.size + 1 + 1 := by omega
      have pn03 : ¬ w.heap.size = W1.heap.size + 1 := by omega
      have pn04 : ¬ w.heap.size = W1.heap.size := by omega
      have pn05 : ¬ w.heap.size = W1.heap.size + 1 + 1 := by omega
      have pn10 : ¬ w.heap.size + 1 = w.heap.size := by omega
      have pn12 : ¬ w.heap.size + 1 = w.heap.size + 1 + 1 := by omega
      have pn13 : ¬ w.heap.size + 1 = W1.heap.size + 1 := by omega
      have pn14 : ¬ w.heap.size + 1 = W1.heap.size := by omega
      have pn15 : ¬ w.heap.size + 1 = W1.heap.size + 1 + 1 := by omega
      have pn20 : ¬ w.heap.size + 1 + 1 = w.heap.size := by omega
      have pn21 : ¬ w.heap.size + 1 + 1 = w.heap.size + 1 := by omega
      have pn23 : ¬ w.heap.size + 1 + 1 = W1.heap.size + 1 := by omega
      have pn24 : ¬ w.heap.size + 1 + 1 = W1.heap.size := by omega
      have pn25 : ¬ w.heap.size + 1 + 1 = W1.heap.size + 1 + 1 := by omega
      have pn30 : ¬ W1.heap.size + 1 = w.heap.size := by omega
      have pn31 : ¬ W1.heap.size + 1 = w.heap.size + 1 := by omega
      have pn32 : ¬ W1.heap.size + 1 = w.heap.size + 1 + 1 := by omega
      have pn34 : ¬ W1.heap.size + 1 = W1.heap.size := by omega
      have pn35 : ¬ W1.heap.size + 1 = W1.heap.size + 1 + 1 := by omega
      have pn40 : ¬ W1.heap.size = w.heap.size := by omega
      have pn41 : ¬ W1.heap.size = w.heap.size + 1 := by omega
      have pn42 : ¬ W1.heap.size = w.heap.size + 1 + 1 := by omega
      have pn43 : ¬ W1.heap.size = W1.heap.size + 1 := by omega
      have pn45 : ¬ W1.heap.size = W1.heap.size + 1 + 1 := by omega
      have pn50 : ¬ W1.heap.size + 1 + 1 = w.heap.size := by omega
      have pn51 : ¬ W1.heap.size + 1 + 1 = w.heap.size + 1 := by omega
      have pn52 : ¬ W1.heap.size + 1 + 1 = w.heap.size + 1 + 1 := by omega
      have pn53 : ¬ W1.heap.size + 1 + 1 = W1.heap.size + 1 := by omega
      have pn54 : ¬ W1.heap.size + 1 + 1 = W1.heap.size := by omega
      gi_wp2_with fail
      refine only_wide ?_
      refine wp_named (fun W_ => (isRow W_ w.heap.size ∧ rowAt W_ w.heap.size = (En (stk s l n))) ∧ (isRow W_ (w.heap.size + 1) ∧ rowAt W_ (w.heap.size + 1) = #[.slice A n c]) ∧ (isRow W_ (w.heap.size + 1 + 1) ∧ rowAt W_ (w.heap.size + 1 + 1) = #[.bool false]) ∧ (isRow W_ (W1.heap.size + 1) ∧ rowAt W_ (W1.heap.size + 1) = (En (stk s l n))) ∧ (isRow W_ W1.heap.size ∧ rowAt W_ W1.heap.size = (En s)) ∧ (isRow W_ (W1.heap.size + 1 + 1) ∧ rowAt W_ (W1.heap.size + 1 + 1) = #[.int .i64 n]) ∧ W_.heap[D]? = some (.deferred (some [])) ∧ Below w.heap.size w W_) (by refine ⟨⟨by go_simp, by go_simp⟩, ⟨by go_simp, by go_simp⟩, ⟨by go_simp, by go_simp⟩, ⟨by go_simp, by go_simp⟩, ⟨by go_simp, by go_simp⟩, ⟨by go_simp, by go_simp⟩, by first | assumption | (go_simp; done) | exact hK, by go_simp⟩) ?_
      rintro v1 ⟨⟨S_1, S_1'⟩, ⟨A_1, A_1'⟩, ⟨B_1, B_1'⟩, ⟨R_1, R_1'⟩, ⟨F_1, F_1'⟩, ⟨N_1, N_1'⟩, al0_1, hB_1⟩
      clear c1 c1' c2 c2' c3 c3' c4 c4' c5 c5' c6 c6' hBW hK
      have hz_1 : w.heap.size ≤ v1.heap.size := hB_1.size
      have hl_S_1 := isRow.lt S_1
      have ne_S_1_0 : ¬ w.heap.size = v1.heap.size := by omega
      have en_S_1_0 : ¬ v1.heap.size = w.heap.size := by omega
      have hl_A_1 := isRow.lt A_1
      have ne_A_1_0 : ¬ (w.heap.size + 1) = v1.heap.size := by omega
      have en_A_1_0 : ¬ v1.heap.size = (w.heap.size + 1) := by omega
      have hl_B_1 := isRow.lt B_1
      have ne_B_1_0 : ¬ (w.heap.size + 1 + 1) = v1.heap.size := by omega
      have en_B_1_0 : ¬ v1.heap.size = (w.heap.size + 1 + 1) := by omega
      have hl_R_1 := isRow.lt R_1
      have ne_R_1_0 : ¬ (W1.heap.size + 1) = v1.heap.size := by omega
      have en_R_1_0 : ¬ v1.heap.size = (W1.heap.size + 1) := by omega
      have hl_F_1 := isRow.lt F_1
      have ne_F_1_0 : ¬ W1.heap.size = v1.heap.size := by omega
      have en_F_1_0 : ¬ v1.heap.size = W1.heap.size := by omega
      have hl_N_1 := isRow.lt N_1
      have ne_N_1_0 : ¬ (W1.heap.size + 1 + 1) = v1.heap.size := by omega
      have en_N_1_0 : ¬ v1.heap.size = (W1.heap.size + 1 + 1) := by omega
      refine wp_region_held_drew (S := fun w' => (isRow w' w.heap.size ∧ rowAt w' w.heap.size = (En (stk s l n))) ∧ (isRow w' (w.heap.size + 1) ∧ rowAt w' (w.heap.size + 1) = #[.slice A n c]) ∧ (isRow w' (w.heap.size + 1 + 1) ∧ (rowAt w' (w.heap.size + 1 + 1)).size = 1) ∧ (isRow w' (W1.heap.size + 1) ∧ rowAt w' (W1.heap.size + 1) = (En (stk s l n))) ∧ (isRow w' W1.heap.size ∧ rowAt w' W1.heap.size = (En s)) ∧ (isRow w' (W1.heap.size + 1 + 1) ∧ rowAt w' (W1.heap.size + 1 + 1) = #[.int .i64 n]) ∧ w'.heap[D]? = some (.deferred (some [])) ∧ Below w.heap.size w w') (by kernel_rfl) ⟨⟨by go_simp, by go_simp⟩, ⟨by go_simp, by go_simp⟩, ⟨by go_simp, by go_simp⟩, ⟨by go_simp, by go_simp⟩, ⟨by go_simp, by go_simp⟩, ⟨by go_simp, by go_simp⟩, by first | exact al0_1 | (go_simp; done), by go_simp⟩ (fun hHeld => ?_)
      refine wpAnyH_take (i := 0) (oi := ⟨some 73, .move (.tmp 5), 4, "law.go:46", #[], none⟩) (v := ?_) rfl (by kernel_rfl) (by kernel_rfl) (by kernel_rfl) (fun _ _ _ h => h) (Or.inl ⟨by rfl, ?_⟩) (by assumption) ?_
      rotate_left
      · (intro w_ hS_; (try dsimp only at hS_); go_simp; try with_reducible rfl)
      try simp only [Act.put, List.setIfInBounds_toArray, List.set_cons_zero, List.set_cons_succ]
      refine wpAnyH_take (i := 1) (oi := ⟨some 74, .move (.tmp 73), 4, "law.go:46", #[⟨0, .data⟩], none⟩) (v := ?_) rfl (by kernel_rfl) (by kernel_rfl) (by kernel_rfl) (fun _ _ _ h => h) (Or.inl ⟨by rfl, ?_⟩) (by assumption) ?_
      rotate_left
      · (intro w_ hS_; (try dsimp only at hS_); go_simp; try with_reducible rfl)
      try simp only [Act.put, List.setIfInBounds_toArray, List.set_cons_zero, List.set_cons_succ]
      refine wpAnyH_take (i := 2) (oi := ⟨some 75, .load 3 (.tmp 8), 3, "law.go:46", #[⟨1, .guard⟩], some (1, true)⟩) (v := ?_) rfl (by kernel_rfl) (by kernel_rfl) (by kernel_rfl) (fun _ _ _ h => h) (Or.inl ⟨by rfl, ?_⟩) (by assumption) ?_
      rotate_left
      · (intro w_ hS_; (try dsimp only at hS_); go_simp; try with_reducible rfl)
      try simp only [Act.put, List.setIfInBounds_toArray, List.set_cons_zero, List.set_cons_succ]
      refine wpAnyH_take (i := 3) (oi := ⟨some 76, .load 27 (.tmp 3), 27, "law.go:46", #[⟨1, .guard⟩], some (1, true)⟩) (v := ?_) rfl (by kernel_rfl) (by kernel_rfl) (by kernel_rfl) (fun _ _ _ h => h) (Or.inl ⟨by rfl, ?_⟩) (by assumption) ?_
      rotate_left
      · (intro w_ hS_; (try dsimp only at hS_); go_simp; try with_reducible rfl)
      try simp only [Act.put, List.setIfInBounds_toArray, List.set_cons_zero, List.set_cons_succ]
      refine wpAnyH_take (i := 4) (oi := ⟨some 77, .call ⟨.builtin .len, #[.tmp 76], #[27]⟩, 3, "law.go:46", #[⟨3, .data⟩, ⟨1, .guard⟩], some (1, true)⟩) (v := ?_) rfl (by kernel_rfl) (by kernel_rfl) (by kernel_rfl) (fun _ _ _ h => h) (Or.inl ⟨by rfl, ?_⟩) (by assumption) ?_
      rotate_left
      · (intro w_ hS_; (try dsimp only at hS_); go_simp; try with_reducible rfl)
      try simp only [Act.put, List.setIfInBounds_toArray, List.set_cons_zero, List.set_cons_succ]
      refine wpAnyH_take (i := 5) (oi := ⟨some 78, .binOp .eql 3 (.tmp 75) (.tmp 77) 3, 4, "law.go:46", #[⟨2, .data⟩, ⟨4, .data⟩, ⟨1, .guard⟩], some (1, true)⟩) (v := ?_) rfl (by kernel_rfl) (by kernel_rfl) (by kernel_rfl) (fun _ _ _ h => h) (Or.inl ⟨by rfl, ?_⟩) (by assumption) ?_
      rotate_left
      · (intro w_ hS_; (try dsimp only at hS_); go_simp; try with_reducible rfl)
      try simp only [Act.put, List.setIfInBounds_toArray, List.set_cons_zero, List.set_cons_succ]
      refine wpAnyH_take (i := 6) (oi := ⟨some 79, .pick (.tmp 74) (.tmp 78) (.const (.bool false)), 4, "law.go:46", #[⟨1, .data⟩, ⟨5, .data⟩], none⟩) (v := ?_) rfl (by kernel_rfl) (by kernel_rfl) (by kernel_rfl) (fun _ _ _ h => h) (Or.inl ⟨by rfl, ?_⟩) (by assumption) ?_
      rotate_left
      · (intro w_ hS_; (try dsimp only at hS_); go_simp; try with_reducible rfl)
      try simp only [Act.put, List.setIfInBounds_toArray, List.set_cons_zero, List.set_cons_succ]
      refine wpAnyH_take (i := 7) (oi := ⟨some 80, .move (.tmp 79), 4, "law.go:46", #[⟨6, .data⟩, ⟨1, .chain⟩], none⟩) (v := ?_) rfl (by kernel_rfl) (by kernel_rfl) (by kernel_rfl) (fun _ _ _ h => h) (Or.inl ⟨by rfl, ?_⟩) (by assumption) ?_
      rotate_left
      · (intro w_ hS_; (try dsimp only at hS_); go_simp; try with_reducible rfl)
      try simp only [Act.put, List.setIfInBounds_toArray, List.set_cons_zero, List.set_cons_succ]
      refine wpAnyH_take (i := 8) (oi := ⟨some 81, .load 23 (.tmp 7), 23, "law.go:46", #[⟨7, .guard⟩], some (7, true)⟩) (v := ?_) rfl (by kernel_rfl) (by kernel_rfl) (by kernel_rfl) (fun _ _ _ h => h) (Or.inl ⟨by rfl, ?_⟩) (by assumption) ?_
      rotate_left
      · (intro w_ hS_; (try dsimp only at hS_); go_simp; try with_reducible rfl)
      try simp only [Act.put, List.setIfInBounds_toArray, List.set_cons_zero, List.set_cons_succ]
      refine wpAnyH_take (i := 9) (oi := ⟨some 82, .load 27 (.tmp 3), 27, "law.go:46", #[⟨7, .guard⟩], some (7, true)⟩) (v := ?_) rfl (by kernel_rfl) (by kernel_rfl) (by kernel_rfl) (fun _ _ _ h => h) (Or.inl ⟨by rfl, ?_⟩) (by assumption) ?_
      rotate_left
      · (intro w_ hS_; (try dsimp only at hS_); go_simp; try with_reducible rfl)
      try simp only [Act.put, List.setIfInBounds_toArray, List.set_cons_zero, List.set_cons_succ]
      refine wpAnyH_take (i := 11) (oi := ⟨some 84, .load 23 (.tmp 6), 23, "law.go:46", #[⟨7, .guard⟩], some (7, true)⟩) (v := ?_) rfl (by kernel_rfl) (by kernel_rfl) (by kernel_rfl) (fun _ _ _ h => h) (Or.inl ⟨by rfl, ?_⟩) (by assumption) ?_
      rotate_left
      · (intro w_ hS_; (try dsimp only at hS_); go_simp; try with_reducible rfl)
      try simp only [Act.put, List.setIfInBounds_toArray, List.set_cons_zero, List.set_cons_succ]
      refine wpAnyH_ready (rs := [10]) (by kernel_rfl) (by simp) ?_
      refine AllReadyH.cons (o := ⟨some 83, .call ⟨.value (.func 25), #[.tmp 81, .tmp 82], #[23, 27]⟩, 23, "law.go:46", #[⟨8, .data⟩, ⟨9, .data⟩, ⟨7, .chain⟩, ⟨7, .guard⟩], some (7, true)⟩) rfl (fun K hK => ?_) AllReadyH.nil
      (have hq_ := hHeld; (try dsimp only at hq_))
      obtain ⟨⟨PS_2_1, PS_2_1'⟩, ⟨PA_2_1, PA_2_1'⟩, ⟨PB_2_1, PB_2_1'⟩, ⟨PR_2_1, PR_2_1'⟩, ⟨PF_2_1, PF_2_1'⟩, ⟨PN_2_1, PN_2_1'⟩, al0_2_1, hF_2_1⟩ := hq_
      go_simp
      refine (After_c s A n c l _ (Kd.C_below hr (by assumption))).mono ?_
      rintro e u2_1 ⟨rfl, hb⟩
      refine hK.out _ _ ?_ (fun hHeld => ?_)
      · exact ⟨⟨rk1 PS_2_1 hb, rk2 PS_2_1 PS_2_1' hb⟩, ⟨rk1 PA_2_1 hb, rk2 PA_2_1 PA_2_1' hb⟩, ⟨rk1 PB_2_1 hb, by rw [rk3 PB_2_1 hb]; exact PB_2_1'⟩, ⟨rk1 PR_2_1 hb, rk2 PR_2_1 PR_2_1' hb⟩, ⟨rk1 PF_2_1 hb, rk2 PF_2_1 PF_2_1' hb⟩, ⟨rk1 PN_2_1 hb, rk2 PN_2_1 PN_2_1' hb⟩, heap_low al0_2_1 hb, bk hF_2_1 hF_2_1.size hb⟩
      clear hK K
      try simp only [Act.put, List.setIfInBounds_toArray, List.set_cons_zero, List.set_cons_succ]
      refine wpAnyH_take (i := 12) (oi := ⟨some 85, .binOp .eql 23 (.tmp 83) (.tmp 84) 23, 4, "law.go:46", #[⟨10, .data⟩, ⟨11, .data⟩, ⟨7, .guard⟩], some (7, true)⟩) (v := ?_) rfl (by kernel_rfl) (by kernel_rfl) (by kernel_rfl) (fun _ _ _ h => h) (Or.inl ⟨by rfl, ?_⟩) (by assumption) ?_
      rotate_left
      · (intro w_ hS_; (try dsimp only at hS_); go_simp; try with_reducible rfl)
      try simp only [Act.put, List.setIfInBounds_toArray, List.set_cons_zero, List.set_cons_succ]
      refine wpAnyH_take (i := 13) (oi := ⟨some 86, .pick (.tmp 80) (.tmp 85) (.const (.bool false)), 4, "law.go:46", #[⟨7, .data⟩, ⟨12, .data⟩], none⟩) (v := ?_) rfl (by kernel_rfl) (by kernel_rfl) (by kernel_rfl) (fun _ _ _ h => h) (Or.inl ⟨by rfl, ?_⟩) (by assumption) ?_
      rotate_left
      · (intro w_ hS_; (try dsimp only at hS_); go_simp; try with_reducible rfl)
      try simp only [Act.put, List.setIfInBounds_toArray, List.set_cons_zero, List.set_cons_succ]
      refine wpAnyH_ready (rs := [14]) (by kernel_rfl) (by simp) ?_
      refine AllReadyH.cons (o := ⟨none, .store 4 (.tmp 4) (.tmp 86), 0, "law.go:46", #[⟨13, .data⟩, ⟨10, .chain⟩, ⟨0, .phase⟩, ⟨1, .phase⟩, ⟨2, .phase⟩, ⟨3, .phase⟩, ⟨4, .phase⟩, ⟨5, .phase⟩, ⟨6, .phase⟩, ⟨7, .phase⟩, ⟨8, .phase⟩, ⟨9, .phase⟩, ⟨10, .phase⟩, ⟨11, .phase⟩, ⟨12, .phase⟩, ⟨13, .phase⟩], none⟩) rfl (fun K hK => ?_) AllReadyH.nil
      (have hq_ := hHeld; (try dsimp only at hq_))
      obtain ⟨⟨PS_2_2, PS_2_2'⟩, ⟨PA_2_2, PA_2_2'⟩, ⟨PB_2_2, PB_2_2'⟩, ⟨PR_2_2, PR_2_2'⟩, ⟨PF_2_2, PF_2_2'⟩, ⟨PN_2_2, PN_2_2'⟩, al0_2_2, hF_2_2⟩ := hq_
      go_simp
      refine hK.out _ _ ?_ (fun hHeld => ?_)
      · (refine ⟨⟨by go_simp, by go_simp⟩, ⟨by go_simp, by go_simp⟩, ⟨by go_simp, by go_simp⟩, ⟨by go_simp, by go_simp⟩, ⟨by go_simp, by go_simp⟩, ⟨by go_simp, by go_simp⟩, by first | assumption | (go_simp; done), by go_simp⟩)
      clear hK K
      try simp only [Act.put, List.setIfInBounds_toArray, List.set_cons_zero, List.set_cons_succ]
      refine wpAnyH_done (by kernel_rfl) ?_ _
      (try dsimp only at hHeld)
      go_split_ands
      gi_wp2_with fail
      exact leave_bool (by go_simp) rfl rfl (by go_simp) (by go_simp; exact one_set (by assumption)) eD ⟨rfl, below_putD (by go_simp) hDw _⟩
    case stop =>
      rintro D c pre x post W _ _ h _
      exact h.elim

end Go.Proofs.Ytmioioaapikbkaa.Is
