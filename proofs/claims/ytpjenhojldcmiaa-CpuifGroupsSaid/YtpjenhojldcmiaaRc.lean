/- The cells of the document's interface: six fields and its ladder; a part of a row read and written. Generic text (layers 14, 21). -/
import Derived.Test.YtpjenhojldcmiaaLad
import Derived.Test.YtpjenhojldcmiaaRw
import Derived.Laws.CopyRow
import Derived.Deep.MidRow
namespace Go.Proofs.Ytpjenhojldcmiaa
open Go.RowKit Go.Shelf
def RC (m p0 p1 : Int) (o0 o1 sp : Bool) (f : Nat → Bool) : Array Value := #[.int .i64 m, .int .i64 p0, .int .i64 p1, .bool o0, .bool o1, .bool sp] ++ Lb f
section
variable {m p0 p1 v : Int} {o0 o1 sp b : Bool} {f f' : Nat → Bool}
theorem RC_size : (RC m p0 p1 o0 o1 sp f).size = 70 := by unfold RC; rw [Array.size_append, Lb_size]; rfl

theorem RC_get0 : (RC m p0 p1 o0 o1 sp f)[0]? = some (.int .i64 m) := by unfold RC; rw [Array.getElem?_append_left (by simp)]; rfl
theorem RC_at0 {h : 0 < (RC m p0 p1 o0 o1 sp f).size} : (RC m p0 p1 o0 o1 sp f)[0] = .int .i64 m := by have := RC_get0 (m := m) (p0 := p0) (p1 := p1) (o0 := o0) (o1 := o1) (sp := sp) (f := f); rw [Array.getElem?_eq_getElem h] at this; exact Option.some.inj this
theorem RC_set0 : (RC m p0 p1 o0 o1 sp f).setIfInBounds 0 (.int .i64 v) = RC v p0 p1 o0 o1 sp f := by unfold RC; rw [Array.setIfInBounds_append_left (by simp)]; rfl
theorem RC_get1 : (RC m p0 p1 o0 o1 sp f)[1]? = some (.int .i64 p0) := by unfold RC; rw [Array.getElem?_append_left (by simp)]; rfl
theorem RC_at1 {h : 1 < (RC m p0 p1 o0 o1 sp f).size} : (RC m p0 p1 o0 o1 sp f)[1] = .int .i64 p0 := by have := RC_get1 (m := m) (p0 := p0) (p1 := p1) (o0 := o0) (o1 := o1) (sp := sp) (f := f); rw [Array.getElem?_eq_getElem h] at this; exact Option.some.inj this
theorem RC_set1 : (RC m p0 p1 o0 o1 sp f).setIfInBounds 1 (.int .i64 v) = RC m v p1 o0 o1 sp f := by unfold RC; rw [Array.setIfInBounds_append_left (by simp)]; rfl
theorem RC_get2 : (RC m p0 p1 o0 o1 sp f)[2]? = some (.int .i64 p1) := by unfold RC; rw [Array.getElem?_append_left (by simp)]; rfl
theorem RC_at2 {h : 2 < (RC m p0 p1 o0 o1 sp f).size} : (RC m p0 p1 o0 o1 sp f)[2] = .int .i64 p1 := by have := RC_get2 (m := m) (p0 := p0) (p1 := p1) (o0 := o0) (o1 := o1) (sp := sp) (f := f); rw [Array.getElem?_eq_getElem h] at this; exact Option.some.inj this
theorem RC_set2 : (RC m p0 p1 o0 o1 sp f).setIfInBounds 2 (.int .i64 v) = RC m p0 v o0 o1 sp f := by unfold RC; rw [Array.setIfInBounds_append_left (by simp)]; rfl
theorem RC_get3 : (RC m p0 p1 o0 o1 sp f)[3]? = some (.bool o0) := by unfold RC; rw [Array.getElem?_append_left (by simp)]; rfl
theorem RC_at3 {h : 3 < (RC m p0 p1 o0 o1 sp f).size} : (RC m p0 p1 o0 o1 sp f)[3] = .bool o0 := by have := RC_get3 (m := m) (p0 := p0) (p1 := p1) (o0 := o0) (o1 := o1) (sp := sp) (f := f); rw [Array.getElem?_eq_getElem h] at this; exact Option.some.inj this
theorem RC_set3 : (RC m p0 p1 o0 o1 sp f).setIfInBounds 3 (.bool b) = RC m p0 p1 b o1 sp f := by unfold RC; rw [Array.setIfInBounds_append_left (by simp)]; rfl
theorem RC_get4 : (RC m p0 p1 o0 o1 sp f)[4]? = some (.bool o1) := by unfold RC; rw [Array.getElem?_append_left (by simp)]; rfl
theorem RC_at4 {h : 4 < (RC m p0 p1 o0 o1 sp f).size} : (RC m p0 p1 o0 o1 sp f)[4] = .bool o1 := by have := RC_get4 (m := m) (p0 := p0) (p1 := p1) (o0 := o0) (o1 := o1) (sp := sp) (f := f); rw [Array.getElem?_eq_getElem h] at this; exact Option.some.inj this
theorem RC_set4 : (RC m p0 p1 o0 o1 sp f).setIfInBounds 4 (.bool b) = RC m p0 p1 o0 b sp f := by unfold RC; rw [Array.setIfInBounds_append_left (by simp)]; rfl
theorem RC_get5 : (RC m p0 p1 o0 o1 sp f)[5]? = some (.bool sp) := by unfold RC; rw [Array.getElem?_append_left (by simp)]; rfl
theorem RC_at5 {h : 5 < (RC m p0 p1 o0 o1 sp f).size} : (RC m p0 p1 o0 o1 sp f)[5] = .bool sp := by have := RC_get5 (m := m) (p0 := p0) (p1 := p1) (o0 := o0) (o1 := o1) (sp := sp) (f := f); rw [Array.getElem?_eq_getElem h] at this; exact Option.some.inj this
theorem RC_set5 : (RC m p0 p1 o0 o1 sp f).setIfInBounds 5 (.bool b) = RC m p0 p1 o0 o1 b f := by unfold RC; rw [Array.setIfInBounds_append_left (by simp)]; rfl
theorem Lb_list : (Lb f).toList = (List.range 64).map fun i => Value.bool (f i) := rfl
theorem RC_ext : (RC m p0 p1 o0 o1 sp f).extract 6 70 = Lb f := by
  unfold RC
  rw [Array.extract_append]
  simp [Lb_size]
theorem RC_one : AllOne (RC m p0 p1 o0 o1 sp f) := by
  unfold AllOne RC
  rw [Array.all_append, Lb_one]; simp [Value.oneCell']
/-- cells 'cs' laid into a row from a place on -/
def spl (cur : Array Value) (o : Nat) (cs : Array Value) : Array Value := (cur.toList.take o ++ cs.toList ++ cur.toList.drop (o + cs.size)).toArray
theorem RC_spl : spl (RC m p0 p1 o0 o1 sp f) 6 (Lb f') = RC m p0 p1 o0 o1 sp f' := by
  unfold spl
  rw [Lb_size]
  have h : (RC m p0 p1 o0 o1 sp f).toList = [Value.int .i64 m, .int .i64 p0, .int .i64 p1, .bool o0, .bool o1, .bool sp] ++ (Lb f).toList := by unfold RC; simp
  rw [h]
  have hl : (Lb f).toList.length = 64 := by have := Lb_size f; simpa using this
  rw [show (6 + 64) = [Value.int .i64 m, .int .i64 p0, .int .i64 p1, .bool o0, .bool o1, .bool sp].length + 64 from rfl, List.drop_append, List.drop_of_length_le (by simp), List.drop_of_length_le (by rw [hl]; simp)]
  rw [List.take_append_of_le_length (by simp)]
  unfold RC
  apply Array.ext'
  simp
end
def offv : Value → Nat
  | .pointer (some a) => a.off
  | _ => 0
theorem offv_ptr {a : Addr} : offv (.pointer (some a)) = a.off := rfl
section
variable {w : World}
theorem run_load_mid_op {P : Program} {ty : TypeId} {n : Nat} {d : TypeDesc} (hu : P.underlying ty = some d) (hd : (match d with | .struct _ | .array _ _ => true | _ => false) = true) (hn : (P.info? ty).map (·.size) = some n) {ρ : Operand → Value} {x : Operand} {dst : Option Tmp} {t0 : TypeId} {pos : String} {af : Array Edge} {gd : Option (Nat × Bool)}
    (hx : ρ x = .pointer (some ⟨blk (ρ x), offv (ρ x), none⟩)) (h : isRow w (blk (ρ x))) (hs : offv (ρ x) + n ≤ (rowAt w (blk (ρ x))).size) :
    (execOp ρ { dst := dst, op := .load ty x, type := t0, pos := pos, after := af, guard := gd }).run P w = .ok (.value (.agg ((rowAt w (blk (ρ x))).extract (offv (ρ x)) (offv (ρ x) + n)))) w := by
  obtain ⟨t, ht⟩ := h.box
  have key := run_loadAt_mid (P := P) w (blk (ρ x)) (offv (ρ x)) ty ((rowAt w (blk (ρ x))).extract (offv (ρ x)) (offv (ρ x) + n)).toList d (by
      intro j v hj
      rw [cell_of_row w _ _ _ t (0, 0) ht]
      rw [Array.getElem?_toList, Array.getElem?_extract] at hj
      split at hj
      · exact hj
      · cases hj) hu (by cases d <;> first | rfl | simp at hd) (by rw [hn]; congr 1; simp; omega)
  rw [← hx] at key
  simp only [execOp, Sem.run_bind, key, Result.andThen_ok, Sem.run_pure, Array.toArray_toList]
theorem run_store_mid_op {P : Program} {ty : TypeId} {n : Nat} (hn : (P.info? ty).map (·.size) = some n) {ρ : Operand → Value} {x y : Operand} {dst : Option Tmp} {t0 : TypeId} {pos : String} {af : Array Edge} {gd : Option (Nat × Bool)}
    (hx : ρ x = .pointer (some ⟨blk (ρ x), offv (ρ x), none⟩)) (hy : ρ y = .agg (aggOf (ρ y))) (h : isRow w (blk (ρ x))) (hs : offv (ρ x) + n ≤ (rowAt w (blk (ρ x))).size) (hc : (aggOf (ρ y)).size = n) (h1 : AllOne (aggOf (ρ y))) :
    (execOp ρ { dst := dst, op := .store ty x y, type := t0, pos := pos, after := af, guard := gd }).run P w = .ok .skip (w.setRow (blk (ρ x)) (spl (rowAt w (blk (ρ x))) (offv (ρ x)) (aggOf (ρ y)))) := by
  obtain ⟨t, ht⟩ := h.box
  generalize aggOf (ρ y) = cs at *
  have h2 := run_storeCells_at P (blk (ρ x)) (offv (ρ x)) t cs.toList 0 (rowAt w (blk (ρ x))) w ht (by simp; omega) (fun v hv => (Array.all_eq_true_iff_forall_mem.1 h1) v (by simpa using hv))
  have key : (Instr.storeAt ty (.pointer (some ⟨blk (ρ x), offv (ρ x), none⟩)) (.agg cs)).run P w = .ok () (w.setRow (blk (ρ x)) (spl (rowAt w (blk (ρ x))) (offv (ρ x)) cs)) := by
    cases hq : P.info? ty with
    | none => simp [hq] at hn
    | some i =>
      have hs' : cs.size = i.size := by simp [hq] at hn; omega
      simp only [Instr.storeAt, Instr.sureAddr, Sem.run_bind, Sem.run_pure, Result.andThen_ok]
      simp [storeVar, sizeOf, typeInfo, hq, Value.cells, hs', h2, spl]
  rw [← hx, ← hy] at key
  simp only [execOp, Sem.run_bind, key, Result.andThen_ok, Sem.run_pure]
end
end Go.Proofs.Ytpjenhojldcmiaa
