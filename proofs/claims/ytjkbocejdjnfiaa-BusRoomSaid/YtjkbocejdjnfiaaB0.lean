/- Spans: rows of them, and the iterator over a bus's spans. -/
import Derived.Test.YtjkbocejdjnfiaaIAllx2
import Derived.Test.YtjkbocejdjnfiaaIAllx4
import Derived.Test.YtjkbocejdjnfiaaAp
import Derived.RegionIn
namespace Go.Proofs.Ytjkbocejdjnfiaa.Bs
open Go.RowKit Go.Shelf Go.Proofs.Ytjkbocejdjnfiaa.IAll Go.Proofs.YtjkbocejdjnfiaaW.PrintWords Go.Proofs.YtjkbocejdjnfiaaW.PrintLast Go.Proofs.YtjkbocejdjnfiaaW.PrintMore
abbrev Sp := S33
def ES (s : Sp) : Array Value := #[.int .i64 s.f0, .int .i64 s.f1, .int .i64 s.f2, .int .i64 s.f3]
theorem ES_size (s : Sp) : (ES s).size = 4 := rfl
theorem ES_one (s : Sp) : AllOne (ES s) := by simp [ES, AllOne, Value.oneCell']
theorem ES_fold (s : Sp) : #[.int .i64 s.f0, .int .i64 s.f1, .int .i64 s.f2, .int .i64 s.f3] = ES s := rfl
theorem ES_0 (s : Sp) : (ES s)[0]? = some (.int .i64 s.f0) := rfl
theorem ES_1 (s : Sp) : (ES s)[1]? = some (.int .i64 s.f1) := rfl
theorem infoS : (Try.prog.info? 33).map (·.size) = some 4 := by kernel_rfl
section
variable {w : World} {ρ : Operand → Value} {x y : Operand} {dst : Option Tmp} {t0 : TypeId} {pos : String} {af : Array Edge} {gd : Option (Nat × Bool)}
theorem loadS (hx : ρ x = .pointer (some ⟨blk (ρ x), 0, none⟩)) (h : isRow w (blk (ρ x))) (hs : (rowAt w (blk (ρ x))).size = 4) : (execOp ρ { dst := dst, op := .load 33 x, type := t0, pos := pos, after := af, guard := gd }).run Try.prog w = .ok (.value (.agg (rowAt w (blk (ρ x))))) w := run_load_op Try.underlying33 rfl infoS hx h hs
theorem storeS (hx : ρ x = .pointer (some ⟨blk (ρ x), 0, none⟩)) (hy : ρ y = .agg (aggOf (ρ y))) (h : isRow w (blk (ρ x))) (hs : (rowAt w (blk (ρ x))).size = 4) (hc : (aggOf (ρ y)).size = 4) (h1 : AllOne (aggOf (ρ y))) : (execOp ρ { dst := dst, op := .store 33 x y, type := t0, pos := pos, after := af, guard := gd }).run Try.prog w = .ok .skip (w.setRow (blk (ρ x)) (aggOf (ρ y))) := run_store_op infoS hx hy h hs hc h1
theorem semAt_any (r : Option Nat) (ρ : Operand → Value) (o : Oper) (h : ∀ c, o.op ≠ .defer c) : Oper.semAt r ρ o = execOp ρ o := by
  cases r
  · exact Oper.semAt_none _ _
  · exact Oper.semAt_some _ _ _ h
theorem loadSg (r : Option Nat) (hx : ρ x = .pointer (some ⟨blk (ρ x), 0, none⟩)) (h : isRow w (blk (ρ x))) (hs : (rowAt w (blk (ρ x))).size = 4) : (Oper.semAt r ρ { dst := dst, op := .load 33 x, type := t0, pos := pos, after := af, guard := gd }).run Try.prog w = .ok (.value (.agg (rowAt w (blk (ρ x))))) w := by
  rw [semAt_any r _ _ (by intro c h; cases h)]; exact loadS hx h hs
theorem storeSg (r : Option Nat) (hx : ρ x = .pointer (some ⟨blk (ρ x), 0, none⟩)) (hy : ρ y = .agg (aggOf (ρ y))) (h : isRow w (blk (ρ x))) (hs : (rowAt w (blk (ρ x))).size = 4) (hc : (aggOf (ρ y)).size = 4) (h1 : AllOne (aggOf (ρ y))) : (Oper.semAt r ρ { dst := dst, op := .store 33 x y, type := t0, pos := pos, after := af, guard := gd }).run Try.prog w = .ok .skip (w.setRow (blk (ρ x)) (aggOf (ρ y))) := by
  rw [semAt_any r _ _ (by intro c h; cases h)]; exact storeS hx hy h hs hc h1
end
/-- rows of cells lie as they lay, but those of the kinds C -/
structure KeepC (C : Nat → Obj → Prop) (W W' : World) : Prop where
  size : W.heap.size ≤ W'.heap.size
  same : ∀ (k : Nat) (o : Obj), ¬ C k o → W.heap[k]? = some o → o.isCells = true → W'.heap[k]? = some o
theorem KeepC.refl (C : Nat → Obj → Prop) (W : World) : KeepC C W W := ⟨Nat.le_refl _, fun _ _ _ h _ => h⟩
theorem KeepC.trans {C : Nat → Obj → Prop} {W W' W'' : World} (h : KeepC C W W') (k : KeepC C W' W'') : KeepC C W W'' :=
  ⟨Nat.le_trans h.size k.size, fun i o hc hi ho => k.same i o hc (h.same i o hc hi ho) ho⟩
theorem KeepC.more {C C' : Nat → Obj → Prop} {W W' : World} (h : KeepC C W W') (hC : ∀ k o, C k o → C' k o) : KeepC C' W W' := ⟨h.size, fun k o hc hk ho => h.same k o (fun e => hc (hC k o e)) hk ho⟩
theorem KeepC.low {C : Nat → Obj → Prop} {W W' : World} (h : Below W.heap.size W W') : KeepC C W W' :=
  ⟨h.size, fun i _ _ hi _ => (h.block i (Array.getElem?_eq_some_iff.1 hi).1).trans hi⟩
theorem KeepC.put {C : Nat → Obj → Prop} (W : World) (l : Nat) (o o' : Obj) (h : W.heap[l]? = some o) (ho : o.isCells = false) : KeepC C W (W.putObj l o') :=
  ⟨by simp, fun k o1 _ hk h1 => (World.putObj_heap_other (fun e => by rw [e, h] at hk; cases hk; rw [ho] at h1; cases h1)).trans hk⟩
theorem KeepC.setRow {C : Nat → Obj → Prop} (W : World) {g : Nat} (hg : ∀ o, C g o) (cs : Array Value) : KeepC C W (W.setRow g cs) :=
  ⟨by simp, fun k o hc hk _ => (setRow_other W g k cs (fun e => hc (by rw [e]; exact hg o))).trans hk⟩
theorem KeepC.setCell {C : Nat → Obj → Prop} (W : World) {p : Addr} (hg : ∀ o, C p.block o) (v : Value) : KeepC C W (W.setCell p v) :=
  ⟨(KeepsWalks.setCell W _ v).size, fun k o hc hk _ => (Below.heap_setCell _ _ _ k (fun e => hc (by rw [e]; exact hg o))).trans hk⟩
theorem KeepC.row {C : Nat → Obj → Prop} {W W' : World} (h : KeepC C W W') {g : Nat} {cs : Array Value} (hg : ∀ t, ¬ C g (.cells cs t (0, 0))) (hr : Row W g cs) : Row W' g cs := by
  obtain ⟨t, ht⟩ := hr.box
  exact Row.of (show BoxN W' g t cs from h.same g _ (hg _) ht rfl)
theorem KeepC.boxN {C : Nat → Obj → Prop} {W W' : World} (h : KeepC C W W') {g : Nat} {t : TypeId} {cs : Array Value} (hg : ¬ C g (.cells cs t (0, 0))) (hr : BoxN W g t cs) : BoxN W' g t cs := h.same g _ hg hr rfl
theorem KeepC.cell {C : Nat → Obj → Prop} {W W' : World} (h : KeepC C W W') {a : Addr} (ha : ∀ o, ¬ C a.block o) {v : Value} (hv : W.cell? a = some v) : W'.cell? a = some v := by
  obtain ⟨o, ho⟩ : ∃ o, W.heap[a.block]? = some o := ⟨_, Array.getElem?_eq_getElem (World.block_lt_of_cell? W a hv)⟩
  have hc : o.isCells = true := by
    unfold World.cell? at hv
    rw [ho] at hv
    cases o <;> first | rfl | exact absurd hv (by simp)
  exact (World.cell?_of_block ((h.same _ o (ha o) ho hc).trans ho.symm)).trans hv
theorem KeepC.aside {P : Nat → Prop} {W W' : World} (h : AsideP P W W') : KeepC (fun k _ => P k) W W' := ⟨h.size, fun k _ hc hi _ => (h.block k (Array.getElem?_eq_some_iff.1 hi).1 hc).trans hi⟩
theorem boxN_setRow {W : World} {g : Nat} {t : TypeId} {cs : Array Value} (h : BoxN W g t cs) (ds : Array Value) : BoxN (W.setRow g ds) g t ds := by
  obtain ⟨hlt, hk⟩ := Array.getElem?_eq_some_iff.1 h
  show (W.heap.modify g _)[g]? = _
  rw [Array.getElem?_eq_getElem (by rw [Array.size_modify]; exact hlt), Array.getElem_modify_self, hk]
theorem grownBy_setRow' (W : World) (g : Nat) (cs : Array Value) : W.grownBy (W.setRow g cs) (some g) :=
  ⟨rfl, rfl, rfl, by simp, fun k _ hk => setRow_other W g k cs (fun e => hk (by rw [e]))⟩
theorem OwnP.under {β : Type} {Pv : Obj → Prop} {B : Nat} {I : β → World → Prop} (h : OwnP Pv B I) {s : β} {W W' : World} (hs : I s W) (hb : Below W.heap.size W W') : I s W' :=
  h s W W' none hs ⟨hb.os, hb.tape, hb.output, hb.size, fun k hk _ => hb.block k hk⟩ (fun r e => by cases e)
theorem OwnP.row {β : Type} (Pv : Obj → Prop) {B b : Nat} (hb : b < B) (f : β → Array Value) : OwnP Pv B (fun s W => Row W b (f s)) := fun _ W W' row hs hg hr =>
  hs.same (hg.block b hs.1.lt (fun e => by have := (hr b e.symm).1; omega))
theorem KeepsFrom.low {B : Nat} {W W' : World} (h : Below W.heap.size W W') : KeepsFrom B W W' := ⟨h.size, fun i _ _ hi _ => (h.block i (Array.getElem?_eq_some_iff.1 hi).1).trans hi⟩
theorem add_block (ad : Addr) (k : Nat) : (ad.add k).block = ad.block := by unfold Addr.add; split <;> rfl
/-- at the k-th place of a list -/
theorem at_spl {d : List Sp} {k : Nat} (h : k < d.length) : d = d.take k ++ rd_T33 d k :: d.drop (k + 1) := by
  have e : rd_T33 d (k : Int) = d[k] := by simp [rd_T33, List.getD_eq_getElem?_getD, List.getElem?_eq_getElem h]
  rw [e]
  exact (List.take_append_drop k d).symm.trans (by rw [List.drop_eq_getElem_cons h])
theorem take_next {d : List Sp} {k : Nat} (h : k < d.length) : d.take (k + 1) = d.take k ++ [rd_T33 d k] := by
  have e : rd_T33 d (k : Int) = d[k] := by simp [rd_T33, List.getD_eq_getElem?_getD, List.getElem?_eq_getElem h]
  rw [e, List.take_add_one, List.getElem?_eq_getElem h]; rfl
attribute [local go_sem] Oper.semAt_some cell_row frozen_row isRow_setCell_eq rowAt_setCell_same rowAt_setCell_other isRow_alloc_eq rowAt_alloc rowAt_new rowAt_new' isRow_setRow_eq rowAt_setRow_same rowAt_setRow_other isRow_drew rowAt_drew size_setRow_ blk_ptr aggOf_agg below_alloc_e below_setCell_e below_setRow_e below_refl_e below_drew_r isRow_drewN rowAt_drewN below_drewN_e le_add_r ES_size ES_one ES_fold ES_0 ES_1
attribute [local go_sem ↓] loadS storeS loadSg storeSg
def SpansV (w : World) : Value := .func (.func 35) #[] #[.pointer (some ⟨w.heap.size, 0, none⟩)]
theorem Spans_c (g : Nat) (w : World) : Calls Try.prog 29 #[.pointer (some ⟨g, 0, none⟩)] w fun e w' => e = .returned (SpansV w) ∧ w.alloc (.cells #[.pointer (some ⟨g, 0, none⟩)] 24) = w' := by
  go_enter Try.func29, Try.ntmps29
  go_wp2
  go_ret
  exact ⟨rfl, rfl⟩
set_option maxRecDepth 100000 in
set_option maxHeartbeats 1000000 in
theorem spans_iter (Pv : Obj → Prop) (C : Nat → Obj → Prop) (A : Option Addr) (n c : Nat) (d : List Sp) (Bb g : Nat) (W0 : World) (hB : ∀ t, ¬ C Bb (.cells #[.pointer (some ⟨g, 0, none⟩)] t (0, 0))) (hg : ∀ t, ¬ C g (.cells #[.slice A n c] t (0, 0))) (hA : ∀ ad, A = some ad → 0 < n → ∀ o, ¬ C ad.block o)
    (hr1 : Row W0 Bb #[.pointer (some ⟨g, 0, none⟩)]) (hr2 : Row W0 g #[.slice A n c]) (hr : Kd.C k33 W0 A n d) :
    Iter Pv Try.prog 35 #[.pointer (some ⟨Bb, 0, none⟩)] (fun x : Sp => #[.agg (ES x)]) (KeepC C) d W0 := by
  intro ln J Jx W hW hJ hJx hY h0
  have hn : d.length = n := Kd.C_len hr
  have hmx := Kd.C_max hr
  have hK0 : KeepC C W0 W := KeepC.low hW
  obtain ⟨a1, a1'⟩ := hK0.row hB hr1
  obtain ⟨a2, a2'⟩ := hK0.row hg hr2
  refine callsIn_of_wp Try.func35 rfl trivial ?_ rfl
  simp only [Try.ntmps35, List.size_toArray, List.length_cons, List.length_nil, Nat.reduceAdd, Nat.reduceSub, Array.replicate_succ, Array.replicate_zero, List.push_toArray, List.append_toArray, List.nil_append, List.cons_append]
  gi_wp2
  gi_loopw [10] (fun q wr => ∃ k : Nat, k ≤ n ∧ q = .int .i64 k ∧ J (d.take k) wr ∧ KeepC C W0 wr ∧ W.heap.size ≤ wr.heap.size) (fun q _ => n - (intOf q).toNat)
  case atStart => exact ⟨0, by omega, rfl, h0, hK0, Nat.le_refl _⟩
  case round =>
    obtain ⟨k, hk, rfl, hj, hKB, hsz⟩ := hrel
    clear a1 a1' a2 a2' h0 hK0
    by_cases hlt : k < n
    · have k1 : (k : Int) < n := by omega
      have k0 : (0 : Int) ≤ k := by omega
      obtain ⟨ad, e, hx0, hx1, hx2, hx3⟩ := at_T33 hr (k : Int) k0 k1
      cases e
      rw [Int.toNat_natCast] at hx0 hx1 hx2 hx3
      have hAb : ∀ o, ¬ C (ad.add (k * 4)).block o := by rw [add_block]; exact hA ad rfl (by omega)
      replace hx0 := hKB.cell hAb hx0
      replace hx1 := hKB.cell (a := { block := (ad.add (k * 4)).block, off := (ad.add (k * 4)).off + 1 }) hAb hx1
      replace hx2 := hKB.cell (a := { block := (ad.add (k * 4)).block, off := (ad.add (k * 4)).off + 2 }) hAb hx2
      replace hx3 := hKB.cell (a := { block := (ad.add (k * 4)).block, off := (ad.add (k * 4)).off + 3 }) hAb hx3
      have HX := Lib.hid (at_spl (d := d) (k := k) (by omega))
      have HS := Lib.hid (take_next (d := d) (k := k) (by omega))
      clear hr hAb
      gi_wp2_with fail
      have hb4 : Below wr.heap.size wr ((wr.alloc (.cells #[.int .i64 0, .int .i64 0, .int .i64 0, .int .i64 0] 33)).setRow wr.heap.size (ES (rd_T33 d k))) := below_setRow ((Below.refl _ wr).alloc (Nat.le_refl _) _) (Nat.le_refl _) _
      have hj4 := OwnP.under hJ hj hb4
      have hk4 := Lib.hid hb4
      clear hb4
      obtain ⟨fn, tmps, assign, body, hy, hR⟩ := hY _ _ _ _ HX.out hj4
      rw [hy]
      refine ⟨fun h_ => by simp [Fence.wide] at h_, ?_⟩
      refine hR.mono ?_
      rintro e W5 ⟨(⟨rfl, hJ3, hk3⟩ | ⟨rfl, hJx3⟩), -⟩
      · gi_wp2
        go_roundw
        case rel =>
          refine ⟨k + 1, by omega, congrArg (Value.int .i64) (by omega), by rw [HS.out]; exact hJ3, (hKB.trans (KeepC.low hk4.out)).trans hk3, ?_⟩
          have h1 := hk4.out.size; have h2 := hk3.size; omega
        case measure => simp [intOf]; omega
      · gi_wp2
        refine bodyPost_ret (results_none rfl _ _ _) rfl ?_
        exact ⟨⟨_, rfl⟩, .inr ⟨_, _, _, HX.out, hJx3⟩⟩
    · obtain rfl : k = n := by omega
      rw [List.take_of_length_le (by omega)] at hj
      gi_wp2
      go_end0
      exact ⟨⟨_, rfl⟩, .inl hj⟩
end Go.Proofs.Ytjkbocejdjnfiaa.Bs
