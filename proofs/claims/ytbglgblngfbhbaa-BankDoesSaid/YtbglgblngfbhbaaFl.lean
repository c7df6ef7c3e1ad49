/- Rows of structs laid one behind the other in one block, with a tail. Generic text. -/
import Derived.Test.YtbglgblngfbhbaaNm
import Derived.Test.YtbglgblngfbhbaaAp
import Derived.Laws.CopyRow
import Derived.Deep.MidRow
namespace Go.Proofs.Ytbglgblngfbhbaa
open Go.RowKit Go.Shelf
theorem addr_at (g n : Nat) : (⟨g, 0, none⟩ : Addr).add n = ⟨g, n, none⟩ := by
  unfold Addr.add
  split
  · simp
  · subst_vars; simp_all
theorem list_at {α : Type} {xs : List α} {k : Nat} {x : α} (h : xs[k]? = some x) : ∃ a b, xs = a ++ x :: b ∧ a.length = k := by
  obtain ⟨hk, rfl⟩ := List.getElem?_eq_some_iff.1 h
  exact ⟨xs.take k, xs.drop (k + 1), by rw [← List.drop_eq_getElem_cons hk, List.take_append_drop], by simp; omega⟩
def fl {α : Type} (enc : α → List Value) (xs : List α) : List Value := xs.flatMap enc
/-- the cells of some structs, and a tail -/
def FT {α : Type} (enc : α → List Value) (xs : List α) (T : List Value) : Array Value := (fl enc xs ++ T).toArray
def spl (cur : Array Value) (o : Nat) (cs : Array Value) : Array Value := (cur.toList.take o ++ cs.toList ++ cur.toList.drop (o + cs.size)).toArray
section
variable {α : Type} {enc : α → List Value} {m : Nat}
theorem fl_append (a b : List α) : fl enc (a ++ b) = fl enc a ++ fl enc b := by simp [fl]
theorem fl_cons (x : α) (b : List α) : fl enc (x :: b) = enc x ++ fl enc b := by simp [fl]
theorem fl_length (he : ∀ x, (enc x).length = m) (xs : List α) : (fl enc xs).length = xs.length * m := by
  induction xs with
  | nil => simp [fl]
  | cons x xs ih => rw [fl_cons, List.length_append, ih, he, List.length_cons, Nat.add_mul]; omega
theorem FT_size (he : ∀ x, (enc x).length = m) (xs : List α) (T : List Value) : (FT enc xs T).size = xs.length * m + T.length := by
  unfold FT; rw [List.size_toArray, List.length_append, fl_length he]
theorem FT_open {a b : List α} {x : α} {T : List Value} : (FT enc (a ++ x :: b) T).toList = fl enc a ++ (enc x ++ (fl enc b ++ T)) := by
  unfold FT; rw [fl_append, fl_cons]; simp
theorem FT_at (he : ∀ x, (enc x).length = m) {xs : List α} {T : List Value} {k j : Nat} {x : α} (hx : xs[k]? = some x) (hj : j < m) : (FT enc xs T)[k * m + j]? = (enc x)[j]? := by
  obtain ⟨a, b, rfl, rfl⟩ := list_at hx
  rw [← Array.getElem?_toList, FT_open, List.getElem?_append_right (by rw [fl_length he]; omega), fl_length he, show a.length * m + j - a.length * m = j by omega, List.getElem?_append_left (by rw [he]; exact hj)]
theorem set_mid {a b : List α} (x y : α) : (a ++ x :: b).set a.length y = a ++ y :: b := by
  rw [List.set_append_right _ _ (Nat.le_refl _)]; simp
theorem FT_set (he : ∀ x, (enc x).length = m) {xs : List α} {T : List Value} {k j : Nat} {x y : α} {v : Value} (hx : xs[k]? = some x) (hj : j < m) (hy : enc y = (enc x).set j v) : (FT enc xs T).setIfInBounds (k * m + j) v = FT enc (xs.set k y) T := by
  obtain ⟨a, b, rfl, rfl⟩ := list_at hx
  apply Array.ext'
  rw [Array.toList_setIfInBounds, set_mid, FT_open, FT_open, List.set_append_right _ _ (by rw [fl_length he]; omega), fl_length he, show a.length * m + j - a.length * m = j by omega, List.set_append_left _ _ (by rw [he]; exact hj), hy]
theorem FT_spl (he : ∀ x, (enc x).length = m) {xs : List α} {T : List Value} {k : Nat} {x y : α} {cs : Array Value} (hx : xs[k]? = some x) (hc : cs.size ≤ m) (hy : enc y = cs.toList ++ (enc x).drop cs.size) : spl (FT enc xs T) (k * m) cs = FT enc (xs.set k y) T := by
  obtain ⟨a, b, rfl, rfl⟩ := list_at hx
  apply Array.ext'
  unfold spl
  rw [set_mid, FT_open, FT_open, hy]
  have h1 : (fl enc a ++ (enc x ++ (fl enc b ++ T))).take (a.length * m) = fl enc a := by
    rw [List.take_append_of_le_length (by rw [fl_length he]; omega), List.take_of_length_le (by rw [fl_length he]; omega)]
  have h2 : (fl enc a ++ (enc x ++ (fl enc b ++ T))).drop (a.length * m + cs.size) = (enc x).drop cs.size ++ (fl enc b ++ T) := by
    rw [List.drop_append, List.drop_eq_nil_of_le (by rw [fl_length he]; omega), List.nil_append, fl_length he, show a.length * m + cs.size - a.length * m = cs.size by omega, List.drop_append_of_le_length (by rw [he]; exact hc)]
  rw [h1, h2]
  simp
theorem FT_ext (he : ∀ x, (enc x).length = m) {xs : List α} {T : List Value} {k n : Nat} {x : α} (hx : xs[k]? = some x) (hn : n ≤ m) : (FT enc xs T).extract (k * m) (k * m + n) = ((enc x).take n).toArray := by
  obtain ⟨a, b, rfl, rfl⟩ := list_at hx
  apply Array.ext'
  rw [Array.toList_extract, FT_open]
  simp only [List.extract_eq_take_drop, show a.length * m + n - a.length * m = n by omega]
  rw [List.drop_append, List.drop_eq_nil_of_le (by rw [fl_length he]; omega), List.nil_append, fl_length he, Nat.sub_self, List.drop_zero, List.take_append_of_le_length (by rw [he]; exact hn)]
theorem FT_map {β : Type} {g : α → β} {encb : β → List Value} {xs : List α} {T : List Value} (h : ∀ x, encb (g x) = enc x) : FT encb (xs.map g) T = FT enc xs T := by
  unfold FT fl; rw [List.flatMap_map]; simp [h]
theorem FT_all {T : List Value} (h1 : ∀ x, AllOne (enc x).toArray) (xs : List α) (hT : T = []) : AllOne (FT enc xs T) := by
  subst hT
  unfold FT AllOne fl
  rw [List.append_nil, List.all_toArray, List.all_eq_true]
  intro v hv
  obtain ⟨x, -, hx⟩ := List.mem_flatMap.1 hv
  have := h1 x
  unfold AllOne at this
  rw [List.all_toArray, List.all_eq_true] at this
  exact this v hx
end
def offv : Value → Nat
  | .pointer (some a) => a.off
  | _ => 0
theorem offv_ptr {a : Addr} : offv (.pointer (some a)) = a.off := rfl
theorem semAt_any (r : Option Nat) (ρ : Operand → Value) (o : Oper) (h : ∀ c, o.op ≠ .defer c) : Oper.semAt r ρ o = execOp ρ o := by
  cases r
  · exact Oper.semAt_none _ _
  · exact Oper.semAt_some _ _ _ h
section
variable {w : World}
theorem run_load_mid_op {P : Program} {ty : TypeId} {n : Nat} {d : TypeDesc} (hu : P.underlying ty = some d) (hd : (match d with | .struct _ | .array _ _ => true | _ => false) = true) (hn : (P.info? ty).map (·.size) = some n) {ρ : Operand → Value} {x : Operand} {dst : Option Tmp} {t0 : TypeId} {pos : String} {af : Array Edge} {gd : Option (Nat × Bool)}
    (hx : ρ x = .pointer (some ⟨blk (ρ x), offv (ρ x), none⟩)) (h : isRow w (blk (ρ x))) (hs : offv (ρ x) + n ≤ (rowAt w (blk (ρ x))).size) :
    (execOp ρ { dst := dst, op := .load ty x, type := t0, pos := pos, after := af, guard := gd }).run P w = .ok (.value (.agg ((rowAt w (blk (ρ x))).extract (offv (ρ x)) (offv (ρ x) + n)))) w := by
  obtain ⟨t, ht⟩ := h.box
  have key := run_loadAt_mid (P := P) w (blk (ρ x)) (offv (ρ x)) ty ((rowAt w (blk (ρ x))).extract (offv (ρ x)) (offv (ρ x) + n)).toList d (by
      intro j v hj
      rw [cell_of_row w _ _ _ t (0, 0) ht]
      rw [Array.getElem?_toList, Array.getElem?_extract] at hj
      split at hj
      · exact hj
      · cases hj) hu (by cases d <;> first | rfl | simp at hd) (by rw [hn]; congr 1; simp; omega)
  rw [← hx] at key
  simp only [execOp, Sem.run_bind, key, Result.andThen_ok, Sem.run_pure, Array.toArray_toList]
theorem run_store_mid_op {P : Program} {ty : TypeId} {n : Nat} (hn : (P.info? ty).map (·.size) = some n) {ρ : Operand → Value} {x y : Operand} {dst : Option Tmp} {t0 : TypeId} {pos : String} {af : Array Edge} {gd : Option (Nat × Bool)}
    (hx : ρ x = .pointer (some ⟨blk (ρ x), offv (ρ x), none⟩)) (hy : ρ y = .agg (aggOf (ρ y))) (h : isRow w (blk (ρ x))) (hs : offv (ρ x) + n ≤ (rowAt w (blk (ρ x))).size) (hc : (aggOf (ρ y)).size = n) (h1 : AllOne (aggOf (ρ y))) :
    (execOp ρ { dst := dst, op := .store ty x y, type := t0, pos := pos, after := af, guard := gd }).run P w = .ok .skip (w.setRow (blk (ρ x)) (spl (rowAt w (blk (ρ x))) (offv (ρ x)) (aggOf (ρ y)))) := by
  obtain ⟨t, ht⟩ := h.box
  generalize aggOf (ρ y) = cs at *
  have h2 := run_storeCells_at P (blk (ρ x)) (offv (ρ x)) t cs.toList 0 (rowAt w (blk (ρ x))) w ht (by simp; omega) (fun v hv => (Array.all_eq_true_iff_forall_mem.1 h1) v (by simpa using hv))
  have key : (Instr.storeAt ty (.pointer (some ⟨blk (ρ x), offv (ρ x), none⟩)) (.agg cs)).run P w = .ok () (w.setRow (blk (ρ x)) (spl (rowAt w (blk (ρ x))) (offv (ρ x)) cs)) := by
    cases hq : P.info? ty with
    | none => simp [hq] at hn
    | some i =>
      have hs' : cs.size = i.size := by simp [hq] at hn; omega
      simp only [Instr.storeAt, Instr.sureAddr, Sem.run_bind, Sem.run_pure, Result.andThen_ok]
      simp [storeVar, sizeOf, typeInfo, hq, Value.cells, hs', h2, spl]
  rw [← hx, ← hy] at key
  simp only [execOp, Sem.run_bind, key, Result.andThen_ok, Sem.run_pure]
end
end Go.Proofs.Ytbglgblngfbhbaa
