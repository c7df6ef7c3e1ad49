/- The iterator over an interrupt's states. -/
import Derived.Test.YtmioioaapikbkaaIs0
import Derived.RegionIn
namespace Go.Proofs.Ytmioioaapikbkaa.Is
open Go.RowKit Go.Shelf Go.Proofs.Ytmioioaapikbkaa.IAll Go.Proofs.Ytmioioaapikbkaa.Pure Go.Proofs.YtmioioaapikbkaaW.PrintWords Go.Proofs.YtmioioaapikbkaaW.PrintLast Go.Proofs.YtmioioaapikbkaaW.PrintMore
attribute [local go_sem] Oper.semAt_some cell_row frozen_row isRow_setCell_eq rowAt_setCell_same rowAt_setCell_other isRow_alloc_eq rowAt_alloc rowAt_new rowAt_new' isRow_setRow_eq rowAt_setRow_same rowAt_setRow_other isRow_drew rowAt_drew size_setRow_ blk_ptr aggOf_agg below_alloc_e below_setCell_e below_setRow_e below_refl_e below_drew_r isRow_drewN rowAt_drewN below_drewN_e le_add_r En_size En_one
attribute [local go_sem ↓] loadS storeS loadSg storeSg
def PlayV (w : World) : Value := .func (.func 26) #[] #[.pointer (some ⟨w.heap.size, 0, none⟩), .pointer (some ⟨w.heap.size + 1, 0, none⟩)]
theorem Play_c (s : St) (A : Option Addr) (n c : Nat) (w : World) : Calls Try.prog 20 #[.agg (En s), .slice A n c] w fun e w' => e = .returned (PlayV w) ∧ (w.alloc (.cells (En s) 23)).alloc (.cells #[.slice A n c] 27) = w' := by
  unfold En
  go_enter Try.func20, Try.ntmps20
  go_wp2
  go_ret
  exact ⟨rfl, rfl⟩
theorem OwnP.under {β : Type} {Pv : Obj → Prop} {B : Nat} {I : β → World → Prop} (h : OwnP Pv B I) {s : β} {W W' : World} (hs : I s W) (hb : Below W.heap.size W W') : I s W' :=
  h s W W' none hs ⟨hb.os, hb.tape, hb.output, hb.size, fun k hk _ => hb.block k hk⟩ (fun r e => by cases e)
/-- rows of cells lie as they lay, but those of the kinds C -/
structure KeepC (C : Nat → Prop) (W W' : World) : Prop where
  size : W.heap.size ≤ W'.heap.size
  same : ∀ (k : Nat) (o : Obj), ¬ C k → W.heap[k]? = some o → o.isCells = true → W'.heap[k]? = some o
theorem KeepC.refl (C : Nat → Prop) (W : World) : KeepC C W W := ⟨Nat.le_refl _, fun _ _ _ h _ => h⟩
theorem KeepC.trans {C : Nat → Prop} {W W' W'' : World} (h : KeepC C W W') (k : KeepC C W' W'') : KeepC C W W'' :=
  ⟨Nat.le_trans h.size k.size, fun i o hc hi ho => k.same i o hc (h.same i o hc hi ho) ho⟩
theorem KeepC.low {C : Nat → Prop} {W W' : World} (h : Below W.heap.size W W') : KeepC C W W' :=
  ⟨h.size, fun i _ _ hi _ => (h.block i (Array.getElem?_eq_some_iff.1 hi).1).trans hi⟩
theorem KeepC.put {C : Nat → Prop} (W : World) (l : Nat) (o o' : Obj) (h : W.heap[l]? = some o) (ho : o.isCells = false) : KeepC C W (W.putObj l o') :=
  ⟨by simp, fun k o1 _ hk h1 => (World.putObj_heap_other (fun e => by rw [e, h] at hk; cases hk; rw [ho] at h1; cases h1)).trans hk⟩
theorem KeepC.setRow {C : Nat → Prop} (W : World) {g : Nat} (hg : C g) (cs : Array Value) : KeepC C W (W.setRow g cs) :=
  ⟨by simp, fun k _ hc hk _ => (setRow_other W g k cs (fun e => hc (by rw [e]; exact hg))).trans hk⟩
theorem KeepC.setCell {C : Nat → Prop} (W : World) {p : Addr} (hg : C p.block) (v : Value) : KeepC C W (W.setCell p v) :=
  ⟨(KeepsWalks.setCell W _ v).size, fun k _ hc hk _ => (Below.heap_setCell _ _ _ k (fun e => hc (by rw [e]; exact hg))).trans hk⟩
theorem KeepC.drew_ {C : Nat → Prop} {W W' : World} (h : KeepC C W W') : KeepC C W W'.drew := ⟨h.size, h.same⟩
theorem KeepC.row {C : Nat → Prop} {W W' : World} (h : KeepC C W W') {g : Nat} (hg : ¬ C g) {cs : Array Value} (hr : Row W g cs) : Row W' g cs := by
  obtain ⟨t, ht⟩ := hr.box
  exact Row.of (show BoxN W' g t cs from h.same g _ hg ht rfl)
theorem KeepC.cell {C : Nat → Prop} {W W' : World} (h : KeepC C W W') {a : Addr} (ha : ¬ C a.block) {v : Value} (hv : W.cell? a = some v) : W'.cell? a = some v := by
  obtain ⟨o, ho⟩ : ∃ o, W.heap[a.block]? = some o := ⟨_, Array.getElem?_eq_getElem (World.block_lt_of_cell? W a hv)⟩
  have hc : o.isCells = true := by
    unfold World.cell? at hv
    rw [ho] at hv
    cases o <;> first | rfl | exact absurd hv (by simp)
  exact (World.cell?_of_block ((h.same _ o ha ho hc).trans ho.symm)).trans hv
theorem grownBy_setRow' (W : World) (g : Nat) (cs : Array Value) : W.grownBy (W.setRow g cs) (some g) :=
  ⟨rfl, rfl, rfl, by simp, fun k _ hk => setRow_other W g k cs (fun e => hk (by rw [e]))⟩
set_option maxRecDepth 100000 in
set_option maxHeartbeats 1000000 in
theorem play_iter (C : Nat → Prop) (s : St) (A : Option Addr) (n c : Nat) (l : List Int) (B1 B2 : Nat) (W0 : World) (hn : l.length = n) (hmx : n ≤ 9223372036854775807) (hC : ∀ k, W0.heap.size ≤ k → ¬ C k) (hB1 : ¬ C B1) (hB2 : ¬ C B2) (hA : ∀ ad, A = some ad → 0 < n → ¬ C ad.block)
    (hr1 : Row W0 B1 (En s)) (hr2 : Row W0 B2 #[.slice A n c]) (hr : Kd.C (Kd.int .i64) W0 A n l) :
    Iter (fun _ => True) Try.prog 26 #[.pointer (some ⟨B1, 0, none⟩), .pointer (some ⟨B2, 0, none⟩)] (fun x : St => #[.agg (En x)]) (KeepC C) (sts s l n) W0 := by
  intro ln J Jx W hW hJ hJx hY h0
  have hK0 : KeepC C W0 W := KeepC.low hW
  obtain ⟨a1, a1'⟩ := hK0.row hB1 hr1
  obtain ⟨a2, a2'⟩ := hK0.row hB2 hr2
  have e1 : ¬ B1 = W.heap.size := by have := a1.lt; omega
  have e2 : ¬ B2 = W.heap.size := by have := a2.lt; omega
  have e3 : ¬ W.heap.size = B1 := fun e => e1 e.symm
  have e4 : ¬ W.heap.size = B2 := fun e => e2 e.symm
  have hCx : ¬ C W.heap.size := hC _ hW.size
  refine callsIn_of_wp Try.func26 rfl trivial ?_ rfl
  simp only [Try.ntmps26, List.size_toArray, List.length_cons, List.length_nil, Nat.reduceAdd, Nat.reduceSub, Array.replicate_succ, Array.replicate_zero, List.push_toArray, List.append_toArray, List.nil_append, List.cons_append]
  gi_wp2
  gi_loopw [10] (fun q wr => ∃ k : Nat, k ≤ n ∧ q = .int .i64 k ∧ J (sts s l k) wr ∧ KeepC C W0 wr ∧ Row wr W.heap.size (En (stk s l k))) (fun q _ => n - (intOf q).toNat)
  case atStart =>
    refine ⟨0, by omega, rfl, ?_, ?_, ⟨by go_simp, by go_simp; rfl⟩⟩
    · exact hJ _ _ _ (some W.heap.size) (hJ.new _ h0) (grownBy_setRow' _ _ _) (fun r e => by cases e; exact ⟨Nat.le_refl _, _, World.alloc_heap_new W _, trivial⟩)
    · exact ⟨by simp; exact Nat.le_succ_of_le hK0.size, fun k o hc hk ho => (setRow_other _ _ k _ (by have := (Array.getElem?_eq_some_iff.1 hk).1; have := hW.size; omega)).trans ((Below.heap_alloc _ _ _ (by have := (Array.getElem?_eq_some_iff.1 hk).1; have := hW.size; omega)).trans (hK0.same k o hc hk ho))⟩
  case round =>
    obtain ⟨k, hk, rfl, hj, hB, ⟨x0, x0'⟩⟩ := hrel
    clear a1 a1' a2 a2' h0 hK0
    by_cases hlt : k < n
    · have k1 : (k : Int) < n := by omega
      have k0 : (0 : Int) ≤ k := by omega
      obtain ⟨ad, e, hx⟩ := Kd.at_int hr (k : Int) k0 k1
      cases e
      rw [Int.toNat_natCast] at hx
      replace hx := hB.cell (a := ad.add k) (by unfold Addr.add; split <;> exact hA ad rfl (by omega)) hx
      have HIn := Lib.hid (fun W' => in_of_calls (step_c (stk s l k) (rd l k) W'))
      obtain ⟨post, hpost⟩ := sts_at s l hlt
      have HX := Lib.hid (show sts s l n = sts s l k ++ stp (stk s l k) (rd l k) :: post from hpost)
      have HS := Lib.hid (show sts s l (k + 1) = sts s l k ++ [stp (stk s l k) (rd l k)] from rfl)
      have HQ := Lib.hid (show stk s l (k + 1) = stp (stk s l k) (rd l k) from rfl)
      clear hpost hr
      gi_wp2_with fail
      refine (HIn.out _).mono ?_
      rintro e W3 ⟨rfl, hb3⟩
      have hb4 := Lib.hid hb3
      obtain ⟨y0, y0'⟩ := Row.step x0 x0' hb3
      have hj4 := hJ _ _ _ (some W.heap.size) (OwnP.under hJ hj hb3) (grownBy_setRow' W3 W.heap.size (En (stp (stk s l k) (rd l k)))) (fun r e => by cases e; obtain ⟨t, ht⟩ := y0.box; exact ⟨Nat.le_refl _, _, ht, trivial⟩)
      clear hb3
      obtain ⟨fn, tmps, assign, body, hy, hR⟩ := hY _ _ _ _ HX.out hj4
      gi_wp2
      refine hR.mono ?_
      rintro e W5 ⟨(⟨rfl, hJ3, hk3⟩ | ⟨rfl, hJx3⟩), -⟩
      · gi_wp2
        go_roundw
        case rel =>
          refine ⟨k + 1, by omega, congrArg (Value.int .i64) (by omega), by rw [HS.out]; exact hJ3, ?_, ?_⟩
          · refine ⟨?_, fun i o hc hi ho => hk3.same i o hc ((setRow_other _ _ _ _ ?_).trans ((hB.trans (KeepC.low hb4.out)).same i o hc hi ho)) ho⟩
            · have h1 := hB.size; have h2 := hb4.out.size; have h3 := hk3.size; simp only [size_setRow_] at h3; omega
            · have h1 := (Array.getElem?_eq_some_iff.1 hi).1; have h2 := hW.size; omega
          · rw [HQ.out]; exact hk3.row hCx (Row.setRow y0)
        case measure => simp [intOf]; omega
      · gi_wp2
        refine bodyPost_ret (results_none rfl _ _ _) rfl ?_
        exact ⟨⟨_, rfl⟩, .inr ⟨_, _, _, HX.out, hJx3⟩⟩
    · obtain rfl : k = n := by omega
      gi_wp2
      go_end0
      exact ⟨⟨_, rfl⟩, .inl hj⟩
theorem KeepsFrom.low {B : Nat} {W W' : World} (h : Below W.heap.size W W') : KeepsFrom B W W' := ⟨h.size, fun i _ _ hi _ => (h.block i (Array.getElem?_eq_some_iff.1 hi).1).trans hi⟩
theorem lst_snoc (s : St) (l : List Int) (pre : List St) (x : St) : lst s l (pre ++ [x]) = stk s l (pre.length + 1) := by simp [lst]
theorem OwnP.row {β : Type} (Pv : Obj → Prop) {B b : Nat} (hb : b < B) (f : β → Array Value) : OwnP Pv B (fun s W => Row W b (f s)) := fun _ W W' row hs hg hr =>
  hs.same (hg.block b hs.1.lt (fun e => by have := (hr b e.symm).1; omega))
set_option maxRecDepth 100000 in
set_option maxHeartbeats 1000000 in
theorem After_c (s : St) (A : Option Addr) (n c : Nat) (l : List Int) (w : World) (hr : Kd.C (Kd.int .i64) w A n l) :
    Calls Try.prog 25 #[.agg (En s), .slice A n c] w fun e w' => e = .returned (.agg (En (stk s l n))) ∧ Below w.heap.size w w' := by
  refine calls_of_wide ?_
  refine callsIn_of_wp_marks Try.func25 rfl trivial ?_ rfl
  simp only [Try.ntmps25, List.size_toArray, List.length_cons, List.length_nil, Nat.reduceAdd, Nat.reduceSub, Array.replicate_succ, Array.replicate_zero, List.push_toArray, List.append_toArray, List.nil_append, List.cons_append]
  gi_wp2_with fail
  refine (in_of_calls (Play_c s A n c _)).mono ?_
  rintro e W9 ⟨rfl, rfl⟩
  have hn : l.length = n := Kd.C_len hr
  have hmx := Kd.C_max hr
  have hA : ∀ ad, A = some ad → 0 < n → ad.block < w.heap.size := by
    rintro ad rfl h0
    exact Kd.C_lt hr h0 (by decide)
  have hb2 : Below w.heap.size w ((w.alloc (.cells (En s) 23)).alloc (.cells #[.bool false, .bool false, .bool false, .bool false] 23)) := ((Below.refl _ w).alloc (Nat.le_refl _) _).alloc (by simp) _
  obtain ⟨x1, x1'⟩ : Row ((w.alloc (.cells (En s) 23)).alloc (.cells #[.bool false, .bool false, .bool false, .bool false] 23)) w.heap.size (En s) := ⟨by go_simp, by go_simp⟩
  obtain ⟨x2, x2'⟩ : Row ((w.alloc (.cells (En s) 23)).alloc (.cells #[.bool false, .bool false, .bool false, .bool false] 23)) (w.heap.size + 1) #[.bool false, .bool false, .bool false, .bool false] := ⟨by go_simp, by go_simp⟩
  have hs2 : ((w.alloc (.cells (En s) 23)).alloc (.cells #[.bool false, .bool false, .bool false, .bool false] 23)).heap.size = w.heap.size + 2 := by simp
  generalize (w.alloc (.cells (En s) 23)).alloc (.cells #[.bool false, .bool false, .bool false, .bool false] 23) = W0 at *
  have hb4 : Below w.heap.size w ((W0.alloc (.cells (En s) 23)).alloc (.cells #[.slice A n c] 27)) := (hb2.alloc (by omega) _).alloc (by simp; omega) _
  have y1 : Row ((W0.alloc (.cells (En s) 23)).alloc (.cells #[.slice A n c] 27)) w.heap.size (En s) := ⟨by go_simp, by go_simp⟩
  have y2 : Row ((W0.alloc (.cells (En s) 23)).alloc (.cells #[.slice A n c] 27)) (w.heap.size + 1) #[.bool false, .bool false, .bool false, .bool false] := ⟨by go_simp, by go_simp⟩
  have y3 : Row ((W0.alloc (.cells (En s) 23)).alloc (.cells #[.slice A n c] 27)) (w.heap.size + 2) (En s) := by rw [← hs2]; exact ⟨by go_simp, by go_simp⟩
  have y4 : Row ((W0.alloc (.cells (En s) 23)).alloc (.cells #[.slice A n c] 27)) (w.heap.size + 3) #[.slice A n c] := by rw [show w.heap.size + 3 = W0.heap.size + 1 by omega]; exact ⟨by go_simp, by go_simp⟩
  have hs4 : ((W0.alloc (.cells (En s) 23)).alloc (.cells #[.slice A n c] 27)).heap.size = w.heap.size + 4 := by simp; omega
  unfold PlayV
  rw [hs2]
  generalize (W0.alloc (.cells (En s) 23)).alloc (.cells #[.slice A n c] 27) = W1 at *
  clear x1 x1' x2 x2' hb2 hs2
  have hrC := Kd.C_below hr hb4
  gi_wp2_with fail
  refine wp_range (Pv := fun _ => True) (fun _ _ => trivial) rfl (enters_of Try.func26 (by kernel_rfl) rfl) (play_iter (fun k => k = w.heap.size) s A n c l (w.heap.size + 2) (w.heap.size + 3) W1 hn hmx (fun k h => by omega) (by omega) (by omega) (fun ad e h => by have := hA ad e h; omega) y3 y4 hrC) (Below.refl _ _)
    (fun h k => h.trans k) (fun W l o o' _ h1 h2 => KeepC.put W l o o' h1 h2) (fun _ => rfl)
    (fun pre W => Row W w.heap.size (En (lst s l pre)) ∧ Row W (w.heap.size + 1) #[.bool false, .bool false, .bool false, .bool false] ∧ Below w.heap.size w W) (fun _ _ _ => False)
    ((OwnP.row _ (by omega) (fun pre : List St => En (lst s l pre))).and ((OwnP.row _ (by omega) (fun _ : List St => #[.bool false, .bool false, .bool false, .bool false])).and (OwnP.below _ (by omega) (by omega)))) (fun _ => OwnP.const _ _ (fun _ => False))
    ⟨y1, y2, hb4⟩ ?round ?done ?stop
  case round =>
    rintro l' pre x post W hx hl_ hlt ⟨⟨c1, c1'⟩, ⟨c2, c2'⟩, hBW⟩
    obtain ⟨hk, rfl, -⟩ := sts_split s l hx
    have hq := lst_snoc s l pre (stk s l (pre.length + 1))
    generalize stk s l (pre.length + 1) = x at *
    clear hx hrC y1 y2 y3 y4 hb4
    have e1 : ¬ w.heap.size = W.heap.size := by have := c1.lt; omega
    have e2 : ¬ w.heap.size + 1 = W.heap.size := by have := c2.lt; omega
    have e5 : w.heap.size ≤ W.heap.size := hBW.size
    gi_wp2
    have hbn : Below W.heap.size W ((W.alloc (.cells #[.bool false, .bool false, .bool false, .bool false] 23)).setRow W.heap.size (En x)) := below_setRow ((Below.refl _ W).alloc (Nat.le_refl _) _) (Nat.le_refl _) _
    refine ⟨KeepsFrom.low hbn, KeepC.low hbn, ⟨⟨by go_simp, by go_simp⟩, ⟨by go_simp, by go_simp⟩, bk hBW hBW.size hbn⟩, ?_⟩
    have r5 : Row ((W.alloc (.cells #[.bool false, .bool false, .bool false, .bool false] 23)).setRow W.heap.size (En x)) W.heap.size (En x) := Row.setRow isRow_new
    rintro W2 hg ⟨⟨d1, d1'⟩, ⟨d2, d2'⟩, hB2⟩
    obtain ⟨d5, d5'⟩ := Row.kept r5 hg (by intro e; cases e; omega)
    clear hbn r5 hg c1 c1' c2 c2' hBW
    gi_wp2
    refine ⟨⟨by simp, fun k o hB hi _ => (setRow_other _ _ _ _ (by omega)).trans hi⟩, KeepC.setRow (C := fun k => k = w.heap.size) W2 (g := w.heap.size) rfl (En x), ?_⟩
    dsimp only
    rw [hq]
    exact ⟨⟨by go_simp, by go_simp⟩, ⟨by go_simp, by go_simp⟩, below_setRow hB2 (Nat.le_refl _) _⟩
  case done =>
    rintro D W hD ⟨⟨c1, c1'⟩, ⟨c2, c2'⟩, hBW⟩ hK
    rw [show lst s l (sts s l n) = stk s l n by rw [lst, sts_len]] at c1'
    have hne2 : ¬ D = w.heap.size + 1 := by omega
    clear y1 y2 y3 y4 hb4 hrC
    gi_wp2
    have hKD : (W.setRow (w.heap.size + 1) (En (stk s l n))).heap[D]? = some (.deferred (some [])) := (setRow_other _ _ _ _ hne2).trans hK
    have hrD : Row ((W.setRow (w.heap.size + 1) (En (stk s l n))).putObj D (.deferred none)) (w.heap.size + 1) (En (stk s l n)) := Row.same (Row.setRow c2) (World.putObj_heap_other (fun e => hne2 e.symm))
    exact leave_mark hKD (v := .agg (En (stk s l n))) (results_tmps rfl _ _ _ _ rfl hrD Try.underlying23 rfl infoS rfl) ⟨rfl, below_putD (below_setRow hBW (by omega) _) (by omega) _⟩
  case stop =>
    rintro D c pre x post W _ _ h _
    exact h.elim
end Go.Proofs.Ytmioioaapikbkaa.Is
