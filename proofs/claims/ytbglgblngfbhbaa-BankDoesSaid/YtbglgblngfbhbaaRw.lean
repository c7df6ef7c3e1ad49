/- Rows of cells as one fact each: 'isRow w g', 'rowAt w g = cs'; what the walk does to them, as rewrite rules. Generic text. -/
import Derived.Test.YtbglgblngfbhbaaIt
import Derived.Laws.Rows
import Derived.Laws.Tables
import Derived.Laws.ResultCell
namespace Go.Proofs.Ytbglgblngfbhbaa
open Go.RowKit Go.Shelf

def rowAt (w : World) (g : Nat) : Array Value := match w.heap[g]? with | some (.cells cs _ _) => cs | _ => #[]
def isRow (w : World) (g : Nat) : Prop := ∃ cs t, w.heap[g]? = some (.cells cs t (0, 0))
/-- block g is a row of these cells -/
abbrev Row (w : World) (g : Nat) (cs : Array Value) : Prop := isRow w g ∧ rowAt w g = cs

theorem Row.of {w : World} {g : Nat} {t : TypeId} {cs : Array Value} (h : BoxN w g t cs) : Row w g cs := ⟨⟨cs, t, h⟩, by unfold rowAt; rw [show w.heap[g]? = _ from h]⟩
theorem isRow.box {w : World} {g : Nat} (h : isRow w g) : ∃ t, BoxN w g t (rowAt w g) := by
  obtain ⟨cs, t, h⟩ := h
  exact ⟨t, by unfold rowAt; rw [h]; exact h⟩
theorem Row.box {w : World} {g : Nat} {cs : Array Value} (h : Row w g cs) : ∃ t, BoxN w g t cs := by
  obtain ⟨t, ht⟩ := h.1.box
  exact ⟨t, by rw [← h.2]; exact ht⟩
theorem isRow.lt {w : World} {g : Nat} (h : isRow w g) : g < w.heap.size := by obtain ⟨t, ht⟩ := h.box; exact ht.lt
theorem Row.lt {w : World} {g : Nat} {cs : Array Value} (h : Row w g cs) : g < w.heap.size := h.1.lt
theorem Row.same {w w' : World} {g : Nat} {cs : Array Value} (h : Row w g cs) (he : w'.heap[g]? = w.heap[g]?) : Row w' g cs := by
  obtain ⟨t, ht⟩ := h.box
  exact Row.of (t := t) (show BoxN w' g t cs from he.trans ht)
theorem Row.below {n : Nat} {w w' : World} {g : Nat} {cs : Array Value} (h : Row w g cs) (hb : Below n w w') (hg : g < n) : Row w' g cs := h.same (hb.block g hg)
theorem Row.kept {w w' : World} {row : Option Nat} {g : Nat} {cs : Array Value} (h : Row w g cs) (hg : w.grownBy w' row) (hne : some g ≠ row) : Row w' g cs := h.same (hg.block g h.lt hne)
theorem Row.new (w : World) (t : TypeId) (cs : Array Value) : Row (w.alloc (.cells cs t)) w.heap.size cs := Row.of (BoxN.new w t cs)

section rules
variable {w : World} {g i : Nat} {v : Value} {p : Addr} {cs : Array Value} {o : Obj} {t : TypeId}
theorem cell_row (h : isRow w g) : w.cell? ⟨g, i, none⟩ = (rowAt w g)[i]? := by
  obtain ⟨t, ht⟩ := h.box
  simp [World.cell?, show w.heap[g]? = _ from ht]
theorem frozen_row (h : isRow w g) : w.frozen? ⟨g, i, none⟩ = false := by
  obtain ⟨t, ht⟩ := h.box
  exact ht.frozen i
theorem isRow_setCell (h : isRow w g) : isRow (w.setCell p v) g := by
  obtain ⟨t, ht⟩ := h.box
  by_cases e : g = p.block
  · obtain ⟨hlt, hk⟩ := Array.getElem?_eq_some_iff.1 (show w.heap[g]? = _ from ht)
    refine ⟨if p.spot.isSome = true then rowAt w g else (rowAt w g).setIfInBounds p.off v, t, ?_⟩
    show (w.heap.modify p.block _)[g]? = _
    subst e
    rw [Array.getElem?_eq_getElem (by rw [Array.size_modify]; exact hlt), Array.getElem_modify_self, hk]
  · exact (Row.of (boxN_other ht p e v)).1
theorem rowAt_setCell_same (h : isRow w g) : rowAt (w.setCell ⟨g, i, none⟩ v) g = (rowAt w g).setIfInBounds i v := by
  obtain ⟨t, ht⟩ := h.box
  exact (Row.of (ht.set i v)).2
theorem rowAt_setCell_other (hne : ¬ g = p.block) : rowAt (w.setCell p v) g = rowAt w g := by
  unfold rowAt
  rw [show (w.setCell p v).heap[g]? = w.heap[g]? from Below.heap_setCell w p v g hne]
theorem isRow_alloc (h : isRow w g) : isRow (w.alloc o) g := by
  obtain ⟨t, ht⟩ := h.box
  exact (Row.of (ht.alloc o)).1
theorem rowAt_alloc (h : isRow w g) : rowAt (w.alloc o) g = rowAt w g := by
  obtain ⟨t, ht⟩ := h.box
  exact (Row.of (ht.alloc o)).2
theorem isRow_new : isRow (w.alloc (.cells cs t)) w.heap.size := (Row.new w t cs).1
theorem rowAt_new : rowAt (w.alloc (.cells cs t)) w.heap.size = cs := (Row.new w t cs).2
theorem isRow_setRow (h : isRow w g) {k : Nat} : isRow (w.setRow k cs) g := by
  obtain ⟨t, ht⟩ := h.box
  by_cases e : g = k
  · subst e; exact ⟨cs, t, setRow_heap w g _ cs t (0, 0) ht⟩
  · exact ⟨_, t, (setRow_other w k g cs e).trans ht⟩
theorem rowAt_setRow_same (h : isRow w g) : rowAt (w.setRow g cs) g = cs := by
  obtain ⟨t, ht⟩ := h.box
  exact (Row.of (show BoxN (w.setRow g cs) g t cs from setRow_heap w g _ cs t (0, 0) ht)).2
theorem rowAt_setRow_other {k : Nat} (hne : ¬ g = k) : rowAt (w.setRow k cs) g = rowAt w g := by
  unfold rowAt; rw [setRow_other w k g cs hne]
theorem isRow_setCell_eq : isRow (w.setCell p v) g = isRow w g := propext ⟨fun ⟨cs, t, h⟩ => by
    by_cases e : g = p.block
    · subst e
      have h' : (w.heap.modify p.block _)[p.block]? = some (.cells cs t (0, 0)) := h
      rw [Array.getElem?_modify, if_pos rfl] at h'
      cases hk : w.heap[p.block]? with
      | none => rw [hk] at h'; simp at h'
      | some o =>
        rw [hk] at h'
        cases o <;> simp at h'
        rename_i c e f
        obtain ⟨_, rfl, rfl⟩ := h'
        exact ⟨c, e, hk⟩
    · exact ⟨cs, t, (Below.heap_setCell w p v g e).symm.trans h⟩, isRow_setCell⟩
theorem isRow_setRow_eq {k : Nat} : isRow (w.setRow k cs) g = isRow w g := propext ⟨fun ⟨ds, t, h⟩ => by
    by_cases e : g = k
    · subst e
      have h' : (w.heap.modify g _)[g]? = some (.cells ds t (0, 0)) := h
      rw [Array.getElem?_modify, if_pos rfl] at h'
      cases hk : w.heap[g]? with
      | none => rw [hk] at h'; simp at h'
      | some o =>
        rw [hk] at h'
        cases o <;> simp at h'
        rename_i c e f
        obtain ⟨_, rfl, rfl⟩ := h'
        exact ⟨c, e, hk⟩
    · exact ⟨ds, t, (setRow_other w k g cs e).symm.trans h⟩, fun h => isRow_setRow h⟩
theorem isRow_alloc_eq : isRow (w.alloc o) g = (isRow w g ∨ (g = w.heap.size ∧ ∃ cs t, o = .cells cs t (0, 0))) := propext ⟨fun ⟨ds, t, h⟩ => by
    have h' : (w.heap.push o)[g]? = _ := h
    rw [Array.getElem?_push] at h'
    split at h'
    · rename_i e; exact .inr ⟨e, ds, t, Option.some.inj h'⟩
    · exact .inl ⟨ds, t, h'⟩, fun h => by
    rcases h with h | ⟨rfl, cs, t, rfl⟩
    · exact isRow_alloc h
    · exact isRow_new⟩
theorem isRow_drew : isRow w.drew g = isRow w g := propext ⟨fun h => h, fun h => h⟩
theorem rowAt_drew : rowAt w.drew g = rowAt w g := by unfold rowAt; rfl
theorem size_setRow_ {k : Nat} : (w.setRow k cs).heap.size = w.heap.size := by simp
/-- a whole row read, written -/
theorem run_loadAt_row {P : Program} {ty : TypeId} {n : Nat} {d : TypeDesc} (hu : P.underlying ty = some d) (hd : (match d with | .struct _ | .array _ _ => true | _ => false) = true) (hn : (P.info? ty).map (·.size) = some n)
    (h : isRow w g) (hs : (rowAt w g).size = n) : (Instr.loadAt ty (.pointer (some ⟨g, 0, none⟩))).run P w = .ok (.agg (rowAt w g)) w := by
  obtain ⟨t, ht⟩ := h.box
  simp only [Instr.loadAt, Instr.sureAddr, Sem.run_bind, Sem.run_pure, Result.andThen_ok, run_loadVar_row w g t ty (rowAt w g) (0, 0) d ht hu hd (by rw [hs]; exact hn)]
theorem run_storeAt_row {P : Program} {ty : TypeId} {n : Nat} (hn : (P.info? ty).map (·.size) = some n) (h : isRow w g) (hs : (rowAt w g).size = n) (hc : cs.size = n) (h1 : cs.all (·.oneCell') = true) :
    (Instr.storeAt ty (.pointer (some ⟨g, 0, none⟩)) (.agg cs)).run P w = .ok () (w.setRow g cs) := by
  obtain ⟨t, ht⟩ := h.box
  simp only [Instr.storeAt, Instr.sureAddr, Sem.run_bind, Sem.run_pure, Result.andThen_ok, run_storeVar_row w g t ty (rowAt w g) cs ht (by rw [hc]; exact hn) (by rw [hs, hc]) h1]
/-- each cell is one cell (behind a name, so that no rule opens it) -/
def AllOne (cs : Array Value) : Prop := cs.all (·.oneCell') = true
theorem allOne_nil : AllOne #[] := by simp [AllOne]
theorem allOne_cons {l : List Value} : AllOne (v :: l).toArray = (v.oneCell' = true ∧ AllOne l.toArray) := by simp [AllOne]
/-- the same, whatever the operands are before they are reckoned -/
def blk : Value → Nat
  | .pointer (some a) => a.block
  | _ => 0
theorem blk_ptr {a : Addr} : blk (.pointer (some a)) = a.block := rfl
def aggOf : Value → Array Value
  | .agg cs => cs
  | _ => #[]
theorem aggOf_agg : aggOf (.agg cs) = cs := rfl
theorem run_loadAt_any {P : Program} {ty : TypeId} {n : Nat} {d : TypeDesc} (hu : P.underlying ty = some d) (hd : (match d with | .struct _ | .array _ _ => true | _ => false) = true) (hn : (P.info? ty).map (·.size) = some n) {x : Value}
    (hx : x = .pointer (some ⟨blk x, 0, none⟩)) (h : isRow w (blk x)) (hs : (rowAt w (blk x)).size = n) : (Instr.loadAt ty x).run P w = .ok (.agg (rowAt w (blk x))) w := by
  have := run_loadAt_row (w := w) hu hd hn h hs
  rwa [← hx] at this
theorem run_storeAt_any {P : Program} {ty : TypeId} {n : Nat} (hn : (P.info? ty).map (·.size) = some n) {x y : Value} (hx : x = .pointer (some ⟨blk x, 0, none⟩)) (hy : y = .agg (aggOf y)) (h : isRow w (blk x)) (hs : (rowAt w (blk x)).size = n)
    (hc : (aggOf y).size = n) (h1 : AllOne (aggOf y)) : (Instr.storeAt ty x y).run P w = .ok () (w.setRow (blk x) (aggOf y)) := by
  have := run_storeAt_row (w := w) (cs := aggOf y) hn h hs hc h1
  rwa [← hx, ← hy] at this
theorem run_load_op {P : Program} {ty : TypeId} {n : Nat} {d : TypeDesc} (hu : P.underlying ty = some d) (hd : (match d with | .struct _ | .array _ _ => true | _ => false) = true) (hn : (P.info? ty).map (·.size) = some n) {ρ : Operand → Value} {x : Operand} {dst : Option Tmp} {t0 : TypeId} {pos : String} {af : Array Edge} {gd : Option (Nat × Bool)}
    (hx : ρ x = .pointer (some ⟨blk (ρ x), 0, none⟩)) (h : isRow w (blk (ρ x))) (hs : (rowAt w (blk (ρ x))).size = n) :
    (execOp ρ { dst := dst, op := .load ty x, type := t0, pos := pos, after := af, guard := gd }).run P w = .ok (.value (.agg (rowAt w (blk (ρ x))))) w := by
  have := run_loadAt_any (w := w) hu hd hn hx h hs
  simp only [execOp, Sem.run_bind, this, Result.andThen_ok, Sem.run_pure]
theorem run_store_op {P : Program} {ty : TypeId} {n : Nat} (hn : (P.info? ty).map (·.size) = some n) {ρ : Operand → Value} {x y : Operand} {dst : Option Tmp} {t0 : TypeId} {pos : String} {af : Array Edge} {gd : Option (Nat × Bool)}
    (hx : ρ x = .pointer (some ⟨blk (ρ x), 0, none⟩)) (hy : ρ y = .agg (aggOf (ρ y))) (h : isRow w (blk (ρ x))) (hs : (rowAt w (blk (ρ x))).size = n) (hc : (aggOf (ρ y)).size = n) (h1 : AllOne (aggOf (ρ y))) :
    (execOp ρ { dst := dst, op := .store ty x y, type := t0, pos := pos, after := af, guard := gd }).run P w = .ok .skip (w.setRow (blk (ρ x)) (aggOf (ρ y))) := by
  have := run_storeAt_any (w := w) hn hx hy h hs hc h1
  simp only [execOp, Sem.run_bind, this, Result.andThen_ok, Sem.run_pure]
end rules
theorem rk1 {w w' : World} {g : Nat} (h : isRow w g) (hb : Below w.heap.size w w') : isRow w' g := (Row.below ⟨h, rfl⟩ hb h.lt).1
theorem rk2 {w w' : World} {g : Nat} {cs : Array Value} (h : isRow w g) (h2 : rowAt w g = cs) (hb : Below w.heap.size w w') : rowAt w' g = cs := (Row.below ⟨h, h2⟩ hb h.lt).2
theorem rk3 {w w' : World} {g : Nat} (h : isRow w g) (hb : Below w.heap.size w w') : rowAt w' g = rowAt w g := rk2 h rfl hb
theorem bk {n : Nat} {a w w' : World} (h : Below n a w) (hn : n ≤ w.heap.size) (hb : Below w.heap.size w w') : Below n a w' := h.trans (hb.mono hn)
theorem Row.step {w w' : World} {g : Nat} {cs : Array Value} (h : isRow w g) (h2 : rowAt w g = cs) (hb : Below w.heap.size w w') : Row w' g cs := Row.below ⟨h, h2⟩ hb h.lt
section
variable {n k : Nat} {a W : World} {o : Obj} {p : Addr} {v : Value} {cs : Array Value}
theorem below_alloc_r (h : Below n a W) (hn : n ≤ W.heap.size) : Below n a (W.alloc o) := h.alloc hn o
theorem below_setCell_r (h : Below n a W) (hp : n ≤ p.block) : Below n a (W.setCell p v) := h.setCell hp v
theorem below_drew_r : Below n a W.drew = Below n a W := propext ⟨fun h => ⟨h.os, h.tape, h.output, h.size, h.block⟩, fun h => ⟨h.os, h.tape, h.output, h.size, h.block⟩⟩
theorem le_add_r {x y z : Nat} (h : x ≤ y) : x ≤ y + z := Nat.le_trans h (Nat.le_add_right _ _)
end
theorem Row.setRow {w : World} {g : Nat} {cs : Array Value} (h : isRow w g) : Row (w.setRow g cs) g cs := ⟨isRow_setRow h, rowAt_setRow_same h⟩
theorem below_setRow {n : Nat} {a W : World} (h : Below n a W) {B : Nat} (hB : n ≤ B) (ws : Array Value) : Below n a (W.setRow B ws) :=
  ⟨h.os, h.tape, h.output, by simpa using h.size, fun k hk => (setRow_other W B k ws (by omega)).trans (h.block k hk)⟩
theorem below_drew0 {B : Nat} {W W' : World} (h : Below B W W') : Below B W W'.drew := ⟨h.os, h.tape, h.output, h.size, h.block⟩
theorem below_drewl {B : Nat} {W W' : World} (h : Below B W.drew W') : Below B W W' := ⟨h.os, h.tape, h.output, h.size, h.block⟩
theorem results_tmps {P : Program} {fn : Func} {p : Tmp} {ty : TypeId} {n : Nat} {d : TypeDesc} (h : fn.results = #[.cell p ty]) (tmps : Array Value) (w : World) (g : Nat) (cs : Array Value)
    (hp : tmps.getD p undef = .pointer (some ⟨g, 0, none⟩)) (hg : Row w g cs)
    (hu : P.underlying ty = some d) (hd : (match d with | .struct _ | .array _ _ => true | _ => false) = true) (hi : (P.info? ty).map (·.size) = some n) (hs : cs.size = n) : (results fn tmps).run P w = .ok (.agg cs) w := by
  obtain ⟨t, ht⟩ := hg.box
  exact results_cell_row h tmps w g t cs (0, 0) d hp ht hu hd (by rw [hs]; exact hi)
/-- block g may have turned; of what lay all else lies as it lay -/
structure Aside (g : Nat) (w w' : World) : Prop where
  os : w'.os = w.os
  tape : w'.tape = w.tape
  output : w'.output = w.output
  size : w.heap.size ≤ w'.heap.size
  block : ∀ k, k < w.heap.size → k ≠ g → w'.heap[k]? = w.heap[k]?
theorem Aside.of_below {g : Nat} {w w' : World} (h : Below w.heap.size w w') : Aside g w w' := ⟨h.os, h.tape, h.output, h.size, fun k hk _ => h.block k hk⟩
theorem Aside.setCell {g i : Nat} {w W : World} (h : Aside g w W) (v : Value) : Aside g w (W.setCell ⟨g, i, none⟩ v) :=
  ⟨h.os, h.tape, h.output, by simpa using h.size, fun k hk hne => (Below.heap_setCell W ⟨g, i, none⟩ v k hne).trans (h.block k hk hne)⟩
theorem Aside.setRow {g : Nat} {w W : World} (h : Aside g w W) (cs : Array Value) : Aside g w (W.setRow g cs) :=
  ⟨h.os, h.tape, h.output, by simpa using h.size, fun k hk hne => (setRow_other W g k cs hne).trans (h.block k hk hne)⟩
theorem Aside.drew {g : Nat} {w W : World} (h : Aside g w W) : Aside g w W.drew := ⟨h.os, h.tape, h.output, h.size, h.block⟩
theorem Aside.row {g k : Nat} {w w' : World} {cs : Array Value} (h : Aside g w w') (hr : Row w k cs) (hne : k ≠ g) : Row w' k cs := hr.same (h.block k hr.lt hne)
theorem Aside.trans {g : Nat} {w w1 w2 : World} (h : Aside g w w1) (k : Aside g w1 w2) : Aside g w w2 :=
  ⟨k.os.trans h.os, k.tape.trans h.tape, k.output.trans h.output, Nat.le_trans h.size k.size, fun i hi hne => (k.block i (Nat.lt_of_lt_of_le hi h.size) hne).trans (h.block i hi hne)⟩
theorem Aside.below {g n : Nat} {a w w' : World} (h : Aside g w w') (hb : Below n a w) (hg : n ≤ g) (hn : n ≤ w.heap.size) : Below n a w' :=
  ⟨h.os.trans hb.os, h.tape.trans hb.tape, h.output.trans hb.output, Nat.le_trans hb.size h.size, fun k hk => (h.block k (by omega) (by omega)).trans (hb.block k hk)⟩
theorem below_setRow_r {n : Nat} {a W : World} {B : Nat} {ws : Array Value} (h : Below n a W) (hB : n ≤ B) : Below n a (W.setRow B ws) := below_setRow h hB ws
end Go.Proofs.Ytbglgblngfbhbaa
