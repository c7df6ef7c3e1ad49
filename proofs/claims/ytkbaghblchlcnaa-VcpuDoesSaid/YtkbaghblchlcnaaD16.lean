/- Texts of this claim, put together: Va, Sem21, Vb, Rv, Vc, IAllx1, IAllx5, IAllx6. -/
import Derived.Test.YtkbaghblchlcnaaD13
import Derived.Test.YtkbaghblchlcnaaD15
import Derived.Deep.RegionHeld3
import Derived.Deep.RegionWith
import Derived.Deep.QuietTactic
import Derived.BigQuiet
import Derived.RegionTactic
import Derived.ChangeAlike
import Derived.Test.YtkbaghblchlcnaaD10
namespace Go.Proofs.Ytkbaghblchlcnaa.Lr
open Go.RowKit Go.Shelf Go.Proofs.YtkbaghblchlcnaaW.PrintWords Go.Proofs.Ytkbaghblchlcnaa.IAll
theorem addr_at (g n : Nat) : (⟨g, 0, none⟩ : Addr).add n = ⟨g, n, none⟩ := by
  unfold Addr.add
  split
  · rename_i e; rw [e]
  · simp
/-- the cells of some list registers -/
def fl (xs : List S54) : List Value := xs.flatMap fun x => (enc x).toList
def FA (xs : List S54) : Array Value := (fl xs).toArray
theorem fl_cons (x : S54) (xs : List S54) : fl (x :: xs) = (enc x).toList ++ fl xs := by simp [fl]
theorem fl_length (xs : List S54) : (fl xs).length = xs.length * 7 := by
  induction xs with
  | nil => rfl
  | cons x xs ih => rw [fl_cons, List.length_append, ih, List.length_cons]; simp [enc]; omega
theorem fl_get (xs : List S54) : ∀ (k j : Nat), k < xs.length → j < 7 → (fl xs)[k * 7 + j]? = (enc (xs.getD k z54)).toList[j]? := by
  induction xs with
  | nil => intro k j h; simp at h
  | cons x xs ih =>
    intro k j hk hj
    rw [fl_cons]
    cases k with
    | zero => rw [List.getElem?_append_left (by simp [enc]; omega)]; simp
    | succ k =>
      rw [List.getElem?_append_right (by simp [enc]; omega), show (k + 1) * 7 + j - (enc x).toList.length = k * 7 + j by simp [enc]; omega, ih k j (by simpa using hk) hj]
      simp
theorem FA_size (xs : List S54) : (FA xs).size = xs.length * 7 := by unfold FA; rw [List.size_toArray, fl_length]
theorem FA_get (xs : List S54) (k j : Nat) (hk : k < xs.length) (hj : j < 7) : (FA xs)[k * 7 + j]? = (enc (xs.getD k z54)).toList[j]? := by unfold FA; rw [List.getElem?_toArray]; exact fl_get xs k j hk hj
theorem FA_gets (xs : List S54) (k : Nat) (hk : k < xs.length) :
    (FA xs)[k * 7]? = some (.int .i64 (rd_T54 xs k).f0) ∧ (FA xs)[k * 7 + 1]? = some (.int .i64 (rd_T54 xs k).f1) ∧ (FA xs)[k * 7 + 2]? = some (.int .i64 (rd_T54 xs k).f2) ∧ (FA xs)[k * 7 + 3]? = some (.int .i64 (rd_T54 xs k).f3) ∧
    (FA xs)[k * 7 + 4]? = some (.bool (rd_T54 xs k).f4) ∧ (FA xs)[k * 7 + 5]? = some (.int .i64 (rd_T54 xs k).f5) ∧ (FA xs)[k * 7 + 6]? = some (.bool (rd_T54 xs k).f6) := by
  have e : xs.getD k z54 = rd_T54 xs k := by unfold rd_T54; simp
  refine ⟨?_, ?_, ?_, ?_, ?_, ?_, ?_⟩
  · rw [← e]; exact FA_get xs k 0 hk (by omega)
  · rw [← e]; exact FA_get xs k 1 hk (by omega)
  · rw [← e]; exact FA_get xs k 2 hk (by omega)
  · rw [← e]; exact FA_get xs k 3 hk (by omega)
  · rw [← e]; exact FA_get xs k 4 hk (by omega)
  · rw [← e]; exact FA_get xs k 5 hk (by omega)
  · rw [← e]; exact FA_get xs k 6 hk (by omega)
/-- one with another state -/
def setSt (xs : List S54) (k : Nat) (s : Int) : List S54 := xs.set k { rd_T54 xs k with f0 := s }
theorem setSt_length (xs : List S54) (k : Nat) (s : Int) : (setSt xs k s).length = xs.length := by simp [setSt]
theorem fl_set (xs : List S54) : ∀ (k : Nat) (s : Int), k < xs.length → (fl xs).set (k * 7) (.int .i64 s) = fl (xs.set k { xs.getD k z54 with f0 := s }) := by
  induction xs with
  | nil => intro k s h; simp at h
  | cons x xs ih =>
    intro k s hk
    rw [fl_cons]
    cases k with
    | zero => simp [fl_cons, enc]
    | succ k =>
      rw [List.set_append_right _ _ (by simp [enc]; omega), show (k + 1) * 7 - (enc x).toList.length = k * 7 by simp [enc]; omega, ih k s (by simpa using hk)]
      simp [fl_cons]
theorem FA_set (xs : List S54) (k : Nat) (s : Int) (hk : k < xs.length) : (FA xs).setIfInBounds (k * 7) (.int .i64 s) = FA (setSt xs k s) := by
  unfold FA setSt
  rw [List.setIfInBounds_toArray, fl_set xs k s hk]
  simp [rd_T54]
theorem fa_kd {w : World} {g : Nat} {xs : List S54} (h : isRow w g) (h' : rowAt w g = FA xs) (hn : xs.length ≤ 9223372036854775807) : Kd.C k54 w (some ⟨g, 0, none⟩) xs.length xs :=
  ⟨rfl, hn, fun _ => ⟨⟨g, 0, none⟩, rfl, fun j p hp => ⟨(enc p).toList, rfl, k54_mk w p, fun i u hu => by
    have hj : j < xs.length := (List.getElem?_eq_some_iff.1 hp).1
    have hi : i < 7 := by have := (List.getElem?_eq_some_iff.1 hu).1; simpa [enc] using this
    have ea : (⟨g, 0, none⟩ : Addr).add (j * 7 + i) = ⟨g, j * 7 + i, none⟩ := addr_at g _
    show w.cell? ((⟨g, 0, none⟩ : Addr).add (j * 7 + i)) = _
    rw [ea, cell_row h, h', FA_get xs j i hj hi, ← hu]
    rw [List.getD_eq_getElem?_getD, hp]; rfl⟩⟩⟩
theorem one_FA (xs : List S54) : AllOne (FA xs) := by
  unfold AllOne FA
  rw [List.all_toArray, List.all_eq_true]
  intro v hv
  simp only [fl, List.mem_flatMap] at hv
  obtain ⟨x, _, hx⟩ := hv
  simp [enc] at hx
  rcases hx with rfl | rfl | rfl | rfl | rfl | rfl | rfl <;> rfl
end Go.Proofs.Ytkbaghblchlcnaa.Lr
namespace Go.Proofs.Ytkbaghblchlcnaa
open Go.RowKit Go.Shelf
/-- blocks g and h may have turned; of what lay all else lies as it lay -/
structure Aside2 (g h : Nat) (w w' : World) : Prop where
  os : w'.os = w.os
  tape : w'.tape = w.tape
  output : w'.output = w.output
  size : w.heap.size ≤ w'.heap.size
  block : ∀ k, k < w.heap.size → k ≠ g → k ≠ h → w'.heap[k]? = w.heap[k]?
section
variable {g h k : Nat} {w W w1 w2 : World} {cs : Array Value} {v : Value}
theorem Aside2.of_below (b : Below w.heap.size w W) : Aside2 g h w W := ⟨b.os, b.tape, b.output, b.size, fun k hk _ _ => b.block k hk⟩
theorem Aside2.left (b : Aside g w W) : Aside2 g h w W := ⟨b.os, b.tape, b.output, b.size, fun k hk hn _ => b.block k hk hn⟩
theorem Aside2.trans (a : Aside2 g h w w1) (b : Aside2 g h w1 w2) : Aside2 g h w w2 :=
  ⟨b.os.trans a.os, b.tape.trans a.tape, b.output.trans a.output, Nat.le_trans a.size b.size, fun k hk h1 h2 => (b.block k (Nat.lt_of_lt_of_le hk a.size) h1 h2).trans (a.block k hk h1 h2)⟩
theorem Aside2.low (a : Aside2 g h w W) (b : Below W.heap.size W w2) : Aside2 g h w w2 := a.trans (.of_below b)
theorem Aside2.drew (a : Aside2 g h w W) : Aside2 g h w W.drew := ⟨a.os, a.tape, a.output, a.size, a.block⟩
theorem Aside2.row (a : Aside2 g h w W) (hr : Row w k cs) (h1 : k ≠ g) (h2 : k ≠ h) : Row W k cs := hr.same (a.block k hr.lt h1 h2)
theorem Aside2.below {n : Nat} {a : World} (b : Aside2 g h w W) (hb : Below n a w) (hg : n ≤ g) (hh : n ≤ h) (hn : n ≤ w.heap.size) : Below n a W :=
  ⟨b.os.trans hb.os, b.tape.trans hb.tape, b.output.trans hb.output, Nat.le_trans hb.size b.size, fun k hk => (b.block k (by omega) (by omega) (by omega)).trans (hb.block k hk)⟩
/-- rules: what lies on and above the heap's end, and in the two blocks, may turn -/
theorem aside2_alloc_e {o : Obj} (hs : w.heap.size ≤ W.heap.size) : Aside2 g h w (W.alloc o) = Aside2 g h w W := propext ⟨fun a => ⟨a.os, a.tape, a.output, hs, fun k hk h1 h2 => by
    rw [← a.block k hk h1 h2]
    show W.heap[k]? = (W.heap.push o)[k]?
    rw [Array.getElem?_push, if_neg (by omega)]⟩, fun a => a.trans (.of_below ((Below.refl _ W).alloc (Nat.le_refl _) o))⟩
theorem aside2_setCell_e {p : Addr} (hp : p.block = g ∨ p.block = h ∨ w.heap.size ≤ p.block) : Aside2 g h w (W.setCell p v) = Aside2 g h w W := propext
  ⟨fun a => ⟨a.os, a.tape, a.output, by simpa using a.size, fun k hk h1 h2 => by
    rw [← a.block k hk h1 h2]
    exact (Below.heap_setCell W p v k (by rcases hp with rfl | rfl | hp; exact h1; exact h2; omega)).symm⟩,
   fun a => ⟨a.os, a.tape, a.output, by simpa using a.size, fun k hk h1 h2 => (Below.heap_setCell W p v k (by rcases hp with rfl | rfl | hp; exact h1; exact h2; omega)).trans (a.block k hk h1 h2)⟩⟩
theorem aside2_setRow_e {p : Nat} (hp : p = g ∨ p = h ∨ w.heap.size ≤ p) : Aside2 g h w (W.setRow p cs) = Aside2 g h w W := propext
  ⟨fun a => ⟨a.os, a.tape, a.output, by simpa using a.size, fun k hk h1 h2 => by
    rw [← a.block k hk h1 h2]
    exact (setRow_other W p k cs (by rcases hp with rfl | rfl | hp; exact h1; exact h2; omega)).symm⟩,
   fun a => ⟨a.os, a.tape, a.output, by simpa using a.size, fun k hk h1 h2 => (setRow_other W p k cs (by rcases hp with rfl | rfl | hp; exact h1; exact h2; omega)).trans (a.block k hk h1 h2)⟩⟩
theorem aside2_drew_e : Aside2 g h w W.drew = Aside2 g h w W := propext ⟨fun a => ⟨a.os, a.tape, a.output, a.size, a.block⟩, fun a => a.drew⟩
theorem aside2_drewN_e {n : Nat} : Aside2 g h w (W.drewN n) = Aside2 g h w W := propext ⟨fun a => ⟨a.os, a.tape, a.output, a.size, a.block⟩, fun a => ⟨a.os, a.tape, a.output, a.size, a.block⟩⟩
theorem aside2_refl_e : Aside2 g h w w = True := propext ⟨fun _ => trivial, fun _ => .of_below (Below.refl _ _)⟩
end
end Go.Proofs.Ytkbaghblchlcnaa
namespace Go.Proofs.Ytkbaghblchlcnaa
open Go.RowKit Go.Shelf
theorem infoE : (Try.prog.info? 57).map (·.size) = some 2 := by kernel_rfl
section
variable {w : World} {ρ : Operand → Value} {x y : Operand} {dst : Option Tmp} {t0 : TypeId} {pos : String} {af : Array Edge} {gd : Option (Nat × Bool)}
theorem storeE (hx : ρ x = .pointer (some ⟨blk (ρ x), 0, none⟩)) (hy : ρ y = .agg (aggOf (ρ y))) (h : isRow w (blk (ρ x))) (hs : (rowAt w (blk (ρ x))).size = 2) (hc : (aggOf (ρ y)).size = 2) (h1 : AllOne (aggOf (ρ y))) : (execOp ρ { dst := dst, op := .store 57 x y, type := t0, pos := pos, after := af, guard := gd }).run Try.prog w = .ok .skip (w.setRow (blk (ρ x)) (aggOf (ρ y))) := run_store_op infoE hx hy h hs hc h1
end
theorem resE (fn : Func) {p : Tmp} (h : fn.results = #[.cell p 57]) (tmps : Array Value) (w : World) (g : Nat) (x : Bool) (y : Int) (hp : tmps.getD p undef = .pointer (some ⟨g, 0, none⟩)) (hg : Row w g #[.bool x, .int .i64 y]) :
    (results fn tmps).run Try.prog w = .ok (.agg #[.bool x, .int .i64 y]) w := results_tmps h tmps w g _ hp hg Try.underlying57 rfl infoE rfl
end Go.Proofs.Ytkbaghblchlcnaa
namespace Go.Proofs.Ytkbaghblchlcnaa.Lr
open Go.RowKit Go.Shelf Go.Proofs.YtkbaghblchlcnaaW.PrintWords Go.Proofs.Ytkbaghblchlcnaa.IAll
attribute [local go_sem] Oper.semAt_some cell_row frozen_row isRow_setCell_eq rowAt_setCell_same rowAt_setCell_other isRow_alloc_eq rowAt_alloc rowAt_new rowAt_new' isRow_setRow_eq rowAt_setRow_same rowAt_setRow_other isRow_drew rowAt_drew size_setRow_ Lb_size Lb_at blk_ptr aggOf_agg below_alloc_e below_setCell_e below_setRow_e below_refl_e below_drew_r aside2_alloc_e aside2_setCell_e aside2_setRow_e aside2_drew_e aside2_refl_e aside2_drewN_e isRow_drewN rowAt_drewN below_drewN_e le_add_r offv_ptr one_lad zero_lad allOne_nil allOne_cons Value.oneCell' addr_at FA_size one_FA
attribute [local go_sem ↓] storeI storeC storeE
attribute [local go_sem] eq2i eq2b eq2u
def endOk (xs : List S54) (id : Int) : Bool := decide (0 ≤ findOf xs id) && decide (2 ≤ (rd_T54 xs (findOf xs id)).f0)
def endM (xs : List S54) (id : Int) : Int := if endOk xs id = true then (if (rd_T54 xs (findOf xs id)).f4 = true then (rd_T54 xs (findOf xs id)).f5 else -1) else -1
def endXs (xs : List S54) (id : Int) : List S54 := if endOk xs id = true then setSt xs (findOf xs id).toNat ((rd_T54 xs (findOf xs id)).f0 - 2) else xs
def endLost (xs : List S54) (id lost : Int) : Int := if endOk xs id = true then lost else if id < 1020 then lost + 1 else lost
theorem find_range (xs : List S54) (id : Int) : findOf xs id = -1 ∨ ∃ k : Nat, findOf xs id = (k : Int) ∧ k < xs.length ∧ (rd_T54 xs k).f0 ≠ 0 ∧ (rd_T54 xs k).f1 = id := by
  unfold findOf
  cases h : places (pFind id) xs with
  | nil => exact .inl rfl
  | cons x l =>
    have := pl_mem (pFind id) xs xs.length x (by rw [show pl (pFind id) xs xs.length = x :: l from h]; exact List.mem_cons_self)
    obtain ⟨h1, h2, h3⟩ := this
    refine .inr ⟨x.toNat, ?_, by omega, ?_⟩
    · show x = _
      omega
    · rw [Int.toNat_of_nonneg h1]
      unfold pFind at h3
      simpa using h3
end Go.Proofs.Ytkbaghblchlcnaa.Lr
namespace Go.Proofs.Ytkbaghblchlcnaa
open Go.RowKit Go.Shelf
def RV (R : Array Value) (e0 e1 : Value) : Array Value := R ++ #[e0, e1]
section
variable {R R' : Array Value} {e0 e1 v : Value} {i : Nat}
theorem RV_size (h : R.size = 70) : (RV R e0 e1).size = 72 := by unfold RV; rw [Array.size_append, h]; rfl
theorem RV_get70 (h : R.size = 70) : (RV R e0 e1)[70]? = some e0 := by unfold RV; rw [Array.getElem?_append_right (by omega), h]; rfl
theorem RV_get71 (h : R.size = 70) : (RV R e0 e1)[71]? = some e1 := by unfold RV; rw [Array.getElem?_append_right (by omega), h]; rfl
theorem RV_low (h : R.size = 70) (hi : i < 70) : (RV R e0 e1)[i]? = R[i]? := by unfold RV; rw [Array.getElem?_append_left (by omega)]
theorem RV_at70 {q : 70 < (RV R e0 e1).size} (h : R.size = 70) : (RV R e0 e1)[70] = e0 := by have := RV_get70 (e0 := e0) (e1 := e1) h; rw [Array.getElem?_eq_getElem q] at this; exact Option.some.inj this
theorem RV_at71 {q : 71 < (RV R e0 e1).size} (h : R.size = 70) : (RV R e0 e1)[71] = e1 := by have := RV_get71 (e0 := e0) (e1 := e1) h; rw [Array.getElem?_eq_getElem q] at this; exact Option.some.inj this
theorem RV_at5 {q : 5 < (RV R e0 e1).size} (h : R.size = 70) : (RV R e0 e1)[5] = R[5] := by have := RV_low (i := 5) (e0 := e0) (e1 := e1) h (by decide); rw [Array.getElem?_eq_getElem q, Array.getElem?_eq_getElem (by omega)] at this; exact Option.some.inj this
theorem RV_set70 (h : R.size = 70) : (RV R e0 e1).setIfInBounds 70 v = RV R v e1 := by unfold RV; rw [Array.setIfInBounds_append_right (by omega), h]; rfl
theorem RV_set71 (h : R.size = 70) : (RV R e0 e1).setIfInBounds 71 v = RV R e0 v := by unfold RV; rw [Array.setIfInBounds_append_right (by omega), h]; rfl
theorem RV_ext (h : R.size = 70) : (RV R e0 e1).extract 0 70 = R := by
  unfold RV
  rw [Array.extract_append, h]
  simp [← h]
theorem RV_spl (h : R.size = 70) (h' : R'.size = 70) : spl (RV R e0 e1) 0 R' = RV R' e0 e1 := by
  unfold spl RV
  rw [h']
  apply Array.ext'
  simp [h]
end
section
variable {w : World} {ρ : Operand → Value} {x y : Operand} {dst : Option Tmp} {t0 : TypeId} {pos : String} {af : Array Edge} {gd : Option (Nat × Bool)}
/-- the interface within, read and written -/
theorem loadF0 (hx : ρ x = .pointer (some ⟨blk (ρ x), 0, none⟩)) (h : isRow w (blk (ρ x))) (hs : (rowAt w (blk (ρ x))).size = 72) : (execOp ρ { dst := dst, op := .load 107 x, type := t0, pos := pos, after := af, guard := gd }).run Try.prog w = .ok (.value (.agg ((rowAt w (blk (ρ x))).extract 0 70))) w := by
  have ho : offv (ρ x) = 0 := by rw [hx]; rfl
  have := run_load_mid_op (P := Try.prog) (w := w) (ρ := ρ) (x := x) (dst := dst) (t0 := t0) (pos := pos) (af := af) (gd := gd) Try.underlying107 rfl infoF (by rw [ho]; exact hx) h (by rw [ho, hs]; decide)
  rwa [ho] at this
theorem storeF0 (hx : ρ x = .pointer (some ⟨blk (ρ x), 0, none⟩)) (hy : ρ y = .agg (aggOf (ρ y))) (h : isRow w (blk (ρ x))) (hs : (rowAt w (blk (ρ x))).size = 72) (hc : (aggOf (ρ y)).size = 70) (h1 : AllOne (aggOf (ρ y))) : (execOp ρ { dst := dst, op := .store 107 x y, type := t0, pos := pos, after := af, guard := gd }).run Try.prog w = .ok .skip (w.setRow (blk (ρ x)) (spl (rowAt w (blk (ρ x))) 0 (aggOf (ρ y)))) := by
  have ho : offv (ρ x) = 0 := by rw [hx]; rfl
  have := run_store_mid_op (P := Try.prog) (w := w) (ρ := ρ) (x := x) (y := y) (dst := dst) (t0 := t0) (pos := pos) (af := af) (gd := gd) infoF (by rw [ho]; exact hx) hy h (by rw [ho, hs]; decide) hc h1
  rwa [ho] at this
end
end Go.Proofs.Ytkbaghblchlcnaa
namespace Go.Proofs.Ytkbaghblchlcnaa.Lr
open Go.RowKit Go.Shelf Go.Proofs.YtkbaghblchlcnaaW.PrintWords Go.Proofs.Ytkbaghblchlcnaa.IAll
attribute [local go_sem] Oper.semAt_some cell_row frozen_row isRow_setCell_eq rowAt_setCell_same rowAt_setCell_other isRow_alloc_eq rowAt_alloc rowAt_new rowAt_new' isRow_setRow_eq rowAt_setRow_same rowAt_setRow_other isRow_drew rowAt_drew size_setRow_ Lb_size Lb_at blk_ptr aggOf_agg below_alloc_e below_setCell_e below_setRow_e below_refl_e below_drew_r aside2_alloc_e aside2_setCell_e aside2_setRow_e aside2_drew_e aside2_refl_e aside2_drewN_e isRow_drewN rowAt_drewN below_drewN_e le_add_r offv_ptr one_lad zero_lad allOne_nil allOne_cons Value.oneCell' addr_at FA_size one_FA RV_size RV_get70 RV_get71 RV_at70 RV_at71 RV_at5 RV_set71 RV_ext RV_spl RV_low
attribute [local go_sem ↓] storeI storeC storeE
attribute [local go_sem] eq2i eq2b eq2u
set_option maxRecDepth 100000 in
set_option maxHeartbeats 2000000 in
theorem rend_A (g bl : Nat) (R : Array Value) (hR : R.size = 70) (n : Nat) (C : Array Value) (lost id : Int) (w : World) (hr : isRow w g) (hr' : rowAt w g = (RV R (.slice (some ⟨bl, 0, none⟩) n n) (.int .i64 lost))) (hl : isRow w bl) (hl' : rowAt w bl = C) (hne : ¬ g = bl) (hne' : ¬ bl = g) (hlo : 0 ≤ lost) (hlo2 : lost ≤ 4611686018427387904) (hid : id < 1020)
    (HF : Hid (∀ W : World, isRow W bl → rowAt W bl = C → Calls Try.prog 93 #[.slice (some ⟨bl, 0, none⟩) n n, .int .i64 id] W fun e w' => e = .returned (.int .i64 (-1)) ∧ Below W.heap.size W w')) :
    Calls Try.prog 97 #[.pointer (some ⟨g, 0, none⟩), .int .i64 id] w fun e w' => e = .returned (.tuple #[.bool false, .int .i64 (-1)]) ∧ Row w' g (RV R (.slice (some ⟨bl, 0, none⟩) n n) (.int .i64 (lost + 1))) ∧ Row w' bl C ∧ Aside2 g bl w w' := by
  have _u : True := by have _ := hne; have _ := hne'; have _ := hlo; have _ := hlo2; trivial
  clear _u
  have lr := hr.lt
  have ll := hl.lt
  skip
  have hB_0 : Below w.heap.size w w := Below.refl _ _
  go_enter Try.func97, Try.ntmps97
  go_wp2_with fail
  refine (HF.out _ (by go_simp) (by go_simp)).mono ?_
  rintro e v1 ⟨rfl, hb1⟩
  obtain ⟨V_1, V_1'⟩ : Row v1 g (RV R (.slice (some ⟨bl, 0, none⟩) n n) (.int .i64 lost)) := Row.step (by go_simp) (by go_simp) hb1
  obtain ⟨L_1, L_1'⟩ : Row v1 bl C := Row.step (by go_simp) (by go_simp) hb1
  have hB_1 : Below w.heap.size w v1 := bk (by go_simp) (by first | (go_simp; done) | (go_simp; omega) | exact Below.size (by assumption)) hb1
  clear hr hr' hl hl' hB_0 hb1
  have hz_1 : w.heap.size ≤ v1.heap.size := hB_1.size
  have hl_V_1 := isRow.lt V_1
  have hl_L_1 := isRow.lt L_1
  have hA : Aside2 g bl w v1 := .of_below hB_1
  clear hB_1
  go_wp2
  go_ret2
  exact ⟨rfl, ⟨by go_simp, by go_simp⟩, ⟨by go_simp, by go_simp⟩, by go_simp⟩
set_option maxRecDepth 100000 in
set_option maxHeartbeats 2000000 in
theorem rend_B (g bl : Nat) (R : Array Value) (hR : R.size = 70) (n : Nat) (C : Array Value) (lost id : Int) (w : World) (hr : isRow w g) (hr' : rowAt w g = (RV R (.slice (some ⟨bl, 0, none⟩) n n) (.int .i64 lost))) (hl : isRow w bl) (hl' : rowAt w bl = C) (hne : ¬ g = bl) (hne' : ¬ bl = g) (hlo : 0 ≤ lost) (hlo2 : lost ≤ 4611686018427387904) (hid : ¬ id < 1020)
    (HF : Hid (∀ W : World, isRow W bl → rowAt W bl = C → Calls Try.prog 93 #[.slice (some ⟨bl, 0, none⟩) n n, .int .i64 id] W fun e w' => e = .returned (.int .i64 (-1)) ∧ Below W.heap.size W w')) :
    Calls Try.prog 97 #[.pointer (some ⟨g, 0, none⟩), .int .i64 id] w fun e w' => e = .returned (.tuple #[.bool false, .int .i64 (-1)]) ∧ Row w' g (RV R (.slice (some ⟨bl, 0, none⟩) n n) (.int .i64 lost)) ∧ Row w' bl C ∧ Aside2 g bl w w' := by
  have _u : True := by have _ := hne; have _ := hne'; have _ := hlo; have _ := hlo2; trivial
  clear _u
  have lr := hr.lt
  have ll := hl.lt
  skip
  have hB_0 : Below w.heap.size w w := Below.refl _ _
  go_enter Try.func97, Try.ntmps97
  go_wp2_with fail
  refine (HF.out _ (by go_simp) (by go_simp)).mono ?_
  rintro e v1 ⟨rfl, hb1⟩
  obtain ⟨V_1, V_1'⟩ : Row v1 g (RV R (.slice (some ⟨bl, 0, none⟩) n n) (.int .i64 lost)) := Row.step (by go_simp) (by go_simp) hb1
  obtain ⟨L_1, L_1'⟩ : Row v1 bl C := Row.step (by go_simp) (by go_simp) hb1
  have hB_1 : Below w.heap.size w v1 := bk (by go_simp) (by first | (go_simp; done) | (go_simp; omega) | exact Below.size (by assumption)) hb1
  clear hr hr' hl hl' hB_0 hb1
  have hz_1 : w.heap.size ≤ v1.heap.size := hB_1.size
  have hl_V_1 := isRow.lt V_1
  have hl_L_1 := isRow.lt L_1
  have hA : Aside2 g bl w v1 := .of_below hB_1
  clear hB_1
  go_wp2
  go_ret2
  exact ⟨rfl, ⟨by go_simp, by go_simp⟩, ⟨by go_simp, by go_simp⟩, by go_simp⟩
set_option maxRecDepth 100000 in
set_option maxHeartbeats 2000000 in
theorem rend_C (g bl : Nat) (R : Array Value) (hR : R.size = 70) (n : Nat) (C : Array Value) (lost id : Int) (w : World) (hr : isRow w g) (hr' : rowAt w g = (RV R (.slice (some ⟨bl, 0, none⟩) n n) (.int .i64 lost))) (hl : isRow w bl) (hl' : rowAt w bl = C) (hne : ¬ g = bl) (hne' : ¬ bl = g) (hlo : 0 ≤ lost) (hlo2 : lost ≤ 4611686018427387904) (k : Nat) (hk : k < n) (st : Int) (c0 : C[k * 7]? = some (.int .i64 st)) (hst : ¬ 2 ≤ st) (hid : id < 1020)
    (HF : Hid (∀ W : World, isRow W bl → rowAt W bl = C → Calls Try.prog 93 #[.slice (some ⟨bl, 0, none⟩) n n, .int .i64 id] W fun e w' => e = .returned (.int .i64 (k : Int)) ∧ Below W.heap.size W w')) :
    Calls Try.prog 97 #[.pointer (some ⟨g, 0, none⟩), .int .i64 id] w fun e w' => e = .returned (.tuple #[.bool false, .int .i64 (-1)]) ∧ Row w' g (RV R (.slice (some ⟨bl, 0, none⟩) n n) (.int .i64 (lost + 1))) ∧ Row w' bl C ∧ Aside2 g bl w w' := by
  have _u : True := by have _ := hne; have _ := hne'; have _ := hlo; have _ := hlo2; trivial
  clear _u
  have lr := hr.lt
  have ll := hl.lt
  have k0 : ¬ (k : Int) < 0 := by omega
  have k1 : (0 : Int) ≤ (k : Int) := by omega
  have k2 : (k : Int) < (n : Int) := by omega
  have hB_0 : Below w.heap.size w w := Below.refl _ _
  go_enter Try.func97, Try.ntmps97
  go_wp2_with fail
  refine (HF.out _ (by go_simp) (by go_simp)).mono ?_
  rintro e v1 ⟨rfl, hb1⟩
  obtain ⟨V_1, V_1'⟩ : Row v1 g (RV R (.slice (some ⟨bl, 0, none⟩) n n) (.int .i64 lost)) := Row.step (by go_simp) (by go_simp) hb1
  obtain ⟨L_1, L_1'⟩ : Row v1 bl C := Row.step (by go_simp) (by go_simp) hb1
  have hB_1 : Below w.heap.size w v1 := bk (by go_simp) (by first | (go_simp; done) | (go_simp; omega) | exact Below.size (by assumption)) hb1
  clear hr hr' hl hl' hB_0 hb1
  have hz_1 : w.heap.size ≤ v1.heap.size := hB_1.size
  have hl_V_1 := isRow.lt V_1
  have hl_L_1 := isRow.lt L_1
  have hA : Aside2 g bl w v1 := .of_below hB_1
  clear hB_1
  go_wp2
  go_ret2
  exact ⟨rfl, ⟨by go_simp, by go_simp⟩, ⟨by go_simp, by go_simp⟩, by go_simp⟩
set_option maxRecDepth 100000 in
set_option maxHeartbeats 2000000 in
theorem rend_D (g bl : Nat) (R : Array Value) (hR : R.size = 70) (n : Nat) (C : Array Value) (lost id : Int) (w : World) (hr : isRow w g) (hr' : rowAt w g = (RV R (.slice (some ⟨bl, 0, none⟩) n n) (.int .i64 lost))) (hl : isRow w bl) (hl' : rowAt w bl = C) (hne : ¬ g = bl) (hne' : ¬ bl = g) (hlo : 0 ≤ lost) (hlo2 : lost ≤ 4611686018427387904) (k : Nat) (hk : k < n) (st : Int) (c0 : C[k * 7]? = some (.int .i64 st)) (hst : ¬ 2 ≤ st) (hid : ¬ id < 1020)
    (HF : Hid (∀ W : World, isRow W bl → rowAt W bl = C → Calls Try.prog 93 #[.slice (some ⟨bl, 0, none⟩) n n, .int .i64 id] W fun e w' => e = .returned (.int .i64 (k : Int)) ∧ Below W.heap.size W w')) :
    Calls Try.prog 97 #[.pointer (some ⟨g, 0, none⟩), .int .i64 id] w fun e w' => e = .returned (.tuple #[.bool false, .int .i64 (-1)]) ∧ Row w' g (RV R (.slice (some ⟨bl, 0, none⟩) n n) (.int .i64 lost)) ∧ Row w' bl C ∧ Aside2 g bl w w' := by
  have _u : True := by have _ := hne; have _ := hne'; have _ := hlo; have _ := hlo2; trivial
  clear _u
  have lr := hr.lt
  have ll := hl.lt
  have k0 : ¬ (k : Int) < 0 := by omega
  have k1 : (0 : Int) ≤ (k : Int) := by omega
  have k2 : (k : Int) < (n : Int) := by omega
  have hB_0 : Below w.heap.size w w := Below.refl _ _
  go_enter Try.func97, Try.ntmps97
  go_wp2_with fail
  refine (HF.out _ (by go_simp) (by go_simp)).mono ?_
  rintro e v1 ⟨rfl, hb1⟩
  obtain ⟨V_1, V_1'⟩ : Row v1 g (RV R (.slice (some ⟨bl, 0, none⟩) n n) (.int .i64 lost)) := Row.step (by go_simp) (by go_simp) hb1
  obtain ⟨L_1, L_1'⟩ : Row v1 bl C := Row.step (by go_simp) (by go_simp) hb1
  have hB_1 : Below w.heap.size w v1 := bk (by go_simp) (by first | (go_simp; done) | (go_simp; omega) | exact Below.size (by assumption)) hb1
  clear hr hr' hl hl' hB_0 hb1
  have hz_1 : w.heap.size ≤ v1.heap.size := hB_1.size
  have hl_V_1 := isRow.lt V_1
  have hl_L_1 := isRow.lt L_1
  have hA : Aside2 g bl w v1 := .of_below hB_1
  clear hB_1
  go_wp2
  go_ret2
  exact ⟨rfl, ⟨by go_simp, by go_simp⟩, ⟨by go_simp, by go_simp⟩, by go_simp⟩
set_option maxRecDepth 100000 in
set_option maxHeartbeats 2000000 in
theorem rend_E (g bl : Nat) (R : Array Value) (hR : R.size = 70) (n : Nat) (C : Array Value) (lost id : Int) (w : World) (hr : isRow w g) (hr' : rowAt w g = (RV R (.slice (some ⟨bl, 0, none⟩) n n) (.int .i64 lost))) (hl : isRow w bl) (hl' : rowAt w bl = C) (hne : ¬ g = bl) (hne' : ¬ bl = g) (hlo : 0 ≤ lost) (hlo2 : lost ≤ 4611686018427387904) (k : Nat) (hk : k < n) (st : Int) (c0 : C[k * 7]? = some (.int .i64 st)) (mach : Int) (c4 : C[k * 7 + 4]? = some (.bool true)) (c5 : C[k * 7 + 5]? = some (.int .i64 mach)) (hst : 2 ≤ st) (hst3 : st ≤ 3)
    (HF : Hid (∀ W : World, isRow W bl → rowAt W bl = C → Calls Try.prog 93 #[.slice (some ⟨bl, 0, none⟩) n n, .int .i64 id] W fun e w' => e = .returned (.int .i64 (k : Int)) ∧ Below W.heap.size W w')) :
    Calls Try.prog 97 #[.pointer (some ⟨g, 0, none⟩), .int .i64 id] w fun e w' => e = .returned (.tuple #[.bool true, .int .i64 mach]) ∧ Row w' g (RV R (.slice (some ⟨bl, 0, none⟩) n n) (.int .i64 lost)) ∧ Row w' bl (C.setIfInBounds (k * 7) (.int .i64 (st - 2))) ∧ Aside2 g bl w w' := by
  have _u : True := by have _ := hne; have _ := hne'; have _ := hlo; have _ := hlo2; trivial
  clear _u
  have lr := hr.lt
  have ll := hl.lt
  have k0 : ¬ (k : Int) < 0 := by omega
  have k1 : (0 : Int) ≤ (k : Int) := by omega
  have k2 : (k : Int) < (n : Int) := by omega
  have c0' : (C.setIfInBounds (k * 7) (.int .i64 (st - 2)))[k * 7 + 4]? = C[k * 7 + 4]? := by rw [Array.getElem?_setIfInBounds_ne (by omega)]
  rw [c4] at c0'
  have c5' : (C.setIfInBounds (k * 7) (.int .i64 (st - 2)))[k * 7 + 5]? = C[k * 7 + 5]? := by rw [Array.getElem?_setIfInBounds_ne (by omega)]
  rw [c5] at c5'
  have hB_0 : Below w.heap.size w w := Below.refl _ _
  go_enter Try.func97, Try.ntmps97
  go_wp2_with fail
  refine (HF.out _ (by go_simp) (by go_simp)).mono ?_
  rintro e v1 ⟨rfl, hb1⟩
  obtain ⟨V_1, V_1'⟩ : Row v1 g (RV R (.slice (some ⟨bl, 0, none⟩) n n) (.int .i64 lost)) := Row.step (by go_simp) (by go_simp) hb1
  obtain ⟨L_1, L_1'⟩ : Row v1 bl C := Row.step (by go_simp) (by go_simp) hb1
  have hB_1 : Below w.heap.size w v1 := bk (by go_simp) (by first | (go_simp; done) | (go_simp; omega) | exact Below.size (by assumption)) hb1
  clear hr hr' hl hl' hB_0 hb1
  have hz_1 : w.heap.size ≤ v1.heap.size := hB_1.size
  have hl_V_1 := isRow.lt V_1
  have hl_L_1 := isRow.lt L_1
  have hA : Aside2 g bl w v1 := .of_below hB_1
  clear hB_1
  go_wp2_with fail
  go_region
  all_goals
    go_wp2_with fail
    go_quiet (fail)
    go_wp2
    go_ret2
    exact ⟨rfl, ⟨by go_simp, by go_simp⟩, ⟨by go_simp, by go_simp⟩, by go_simp⟩
set_option maxRecDepth 100000 in
set_option maxHeartbeats 2000000 in
theorem rend_F (g bl : Nat) (R : Array Value) (hR : R.size = 70) (n : Nat) (C : Array Value) (lost id : Int) (w : World) (hr : isRow w g) (hr' : rowAt w g = (RV R (.slice (some ⟨bl, 0, none⟩) n n) (.int .i64 lost))) (hl : isRow w bl) (hl' : rowAt w bl = C) (hne : ¬ g = bl) (hne' : ¬ bl = g) (hlo : 0 ≤ lost) (hlo2 : lost ≤ 4611686018427387904) (k : Nat) (hk : k < n) (st : Int) (c0 : C[k * 7]? = some (.int .i64 st)) (c4 : C[k * 7 + 4]? = some (.bool false)) (hst : 2 ≤ st) (hst3 : st ≤ 3)
    (HF : Hid (∀ W : World, isRow W bl → rowAt W bl = C → Calls Try.prog 93 #[.slice (some ⟨bl, 0, none⟩) n n, .int .i64 id] W fun e w' => e = .returned (.int .i64 (k : Int)) ∧ Below W.heap.size W w')) :
    Calls Try.prog 97 #[.pointer (some ⟨g, 0, none⟩), .int .i64 id] w fun e w' => e = .returned (.tuple #[.bool true, .int .i64 (-1)]) ∧ Row w' g (RV R (.slice (some ⟨bl, 0, none⟩) n n) (.int .i64 lost)) ∧ Row w' bl (C.setIfInBounds (k * 7) (.int .i64 (st - 2))) ∧ Aside2 g bl w w' := by
  have _u : True := by have _ := hne; have _ := hne'; have _ := hlo; have _ := hlo2; trivial
  clear _u
  have lr := hr.lt
  have ll := hl.lt
  have k0 : ¬ (k : Int) < 0 := by omega
  have k1 : (0 : Int) ≤ (k : Int) := by omega
  have k2 : (k : Int) < (n : Int) := by omega
  have c0' : (C.setIfInBounds (k * 7) (.int .i64 (st - 2)))[k * 7 + 4]? = C[k * 7 + 4]? := by rw [Array.getElem?_setIfInBounds_ne (by omega)]
  rw [c4] at c0'
  have hB_0 : Below w.heap.size w w := Below.refl _ _
  go_enter Try.func97, Try.ntmps97
  go_wp2_with fail
  refine (HF.out _ (by go_simp) (by go_simp)).mono ?_
  rintro e v1 ⟨rfl, hb1⟩
  obtain ⟨V_1, V_1'⟩ : Row v1 g (RV R (.slice (some ⟨bl, 0, none⟩) n n) (.int .i64 lost)) := Row.step (by go_simp) (by go_simp) hb1
  obtain ⟨L_1, L_1'⟩ : Row v1 bl C := Row.step (by go_simp) (by go_simp) hb1
  have hB_1 : Below w.heap.size w v1 := bk (by go_simp) (by first | (go_simp; done) | (go_simp; omega) | exact Below.size (by assumption)) hb1
  clear hr hr' hl hl' hB_0 hb1
  have hz_1 : w.heap.size ≤ v1.heap.size := hB_1.size
  have hl_V_1 := isRow.lt V_1
  have hl_L_1 := isRow.lt L_1
  have hA : Aside2 g bl w v1 := .of_below hB_1
  clear hB_1
  go_wp2_with fail
  go_region
  all_goals
    go_wp2
    go_ret2
    exact ⟨rfl, ⟨by go_simp, by go_simp⟩, ⟨by go_simp, by go_simp⟩, by go_simp⟩
end Go.Proofs.Ytkbaghblchlcnaa.Lr
-- Written by the program wip/gen/inj.py of this repository, out of the translation, for this claim. Not trusted: Lean checks it.
namespace Go.Proofs.Ytkbaghblchlcnaa.IAll
open Go.RowKit Go.Proofs.YtkbaghblchlcnaaW.PrintWords Go.Proofs.YtkbaghblchlcnaaW.PrintLast Go.Proofs.YtkbaghblchlcnaaW.PrintMore
attribute [local go_sem] max2_int min2_int max_two min_two max_three min_three max_four min_four   -- for this text's walks alone
set_option linter.unusedVariables false
set_option linter.unusedSimpArgs false
theorem eqA54 (d : Nat) (w : World) (x0 y0 : Int) (x1 y1 : Int) (x2 y2 : Int) (x3 y3 : Int) (x4 y4 : Bool) (x5 y5 : Int) (x6 y6 : Bool) :
    (Op.equalIn (d + 2) 54 (.agg #[.int .i64 x0, .int .i64 x1, .int .i64 x2, .int .i64 x3, .bool x4, .int .i64 x5, .bool x6]) (.agg #[.int .i64 y0, .int .i64 y1, .int .i64 y2, .int .i64 y3, .bool y4, .int .i64 y5, .bool y6])).run Try.prog w = .ok (x0 == y0 && (x1 == y1 && (x2 == y2 && (x3 == y3 && (x4 == y4 && (x5 == y5 && (x6 == y6))))))) w := by
  refine eqA_of Try.underlying54 (by kernel_rfl) ?_
  refine eqf_cons (by rfl) (by go_simp; rfl) (by go_simp; rfl) (by go_simp) ?_
  refine eqf_cons (by rfl) (by go_simp; rfl) (by go_simp; rfl) (by go_simp) ?_
  refine eqf_cons (by rfl) (by go_simp; rfl) (by go_simp; rfl) (by go_simp) ?_
  refine eqf_cons (by rfl) (by go_simp; rfl) (by go_simp; rfl) (by go_simp) ?_
  refine eqf_cons (by rfl) (by go_simp; rfl) (by go_simp; rfl) (by go_simp) ?_
  refine eqf_cons (by rfl) (by go_simp; rfl) (by go_simp; rfl) (by go_simp) ?_
  exact eqf_last (by rfl) (by go_simp; rfl) (by go_simp; rfl) (by go_simp)
end Go.Proofs.Ytkbaghblchlcnaa.IAll
-- Written by the program wip/gen/inj.py of this repository, out of the translation, for this claim. Not trusted: Lean checks it.
namespace Go.Proofs.Ytkbaghblchlcnaa.IAll
open Go.RowKit Go.Proofs.YtkbaghblchlcnaaW.PrintWords Go.Proofs.YtkbaghblchlcnaaW.PrintLast Go.Proofs.YtkbaghblchlcnaaW.PrintMore
attribute [local go_sem] max2_int min2_int max_two min_two max_three min_three max_four min_four   -- for this text's walks alone
set_option linter.unusedVariables false
set_option linter.unusedSimpArgs false
attribute [local go_sem high] eqA54
-- NOT PRINTED: function 16 (vcpu_Vcpu_Load)
-- NOT PRINTED: function 45 (lr_where)
-- NOT PRINTED: function 52 (lr_Waits)
/-! ### prio_Before: function 69 -/
-- NOT PRINTED: function 40 (lr_Best)
-- NOT PRINTED: function 19 (vcpu_Vcpu_Best)
-- NOT PRINTED: function 22 (lr_Find)
-- NOT PRINTED: function 17 (vcpu_Vcpu_Ack)
/-! ### cpuif_Real: function 47 -/
-- NOT PRINTED: function 49 (vcpu_Vcpu_end)
-- NOT PRINTED: function 23 (vcpu_Vcpu_Eoi)
-- NOT PRINTED: function 24 (vcpu_Vcpu_Dir)
-- NOT PRINTED: function 28 (vcpu_Vcpu_Do)
-- NOT PRINTED: function 65 (vcpu_Vcpu_Reasons)
-- NOT PRINTED: function 35 (vcpu_Vcpu_Misr)
-- NOT PRINTED: function 11 (crierlaw21_awake)
-- NOT PRINTED: function 27 (vcpu_Vcpu_Unload)
-- NOT PRINTED: function 78 (crierref08_Of)
-- NOT PRINTED: function 56 (crierlaw14_Told)
-- NOT PRINTED: function 31 (crierlaw21_made)
/-! ### crierlaw21_same: function 21 -/
def crierlaw21_same.l0 : Nat → List (S54) → List (S54) → Int → Option (Bool)
  | 0, _, _, _ => none
  | k + 1, x0, x1, x5 => if x5 < (x0.length : Int) then (if 0 ≤ x5 then (if x5 < (x1.length : Int) then (if (!(((rd_T54 x0 x5).f0) == ((rd_T54 x1 x5).f0)) || (!(((rd_T54 x0 x5).f1) == ((rd_T54 x1 x5).f1)) || (!(((rd_T54 x0 x5).f2) == ((rd_T54 x1 x5).f2)) || (!(((rd_T54 x0 x5).f3) == ((rd_T54 x1 x5).f3)) || (!(((rd_T54 x0 x5).f4) == ((rd_T54 x1 x5).f4)) || (!(((rd_T54 x0 x5).f5) == ((rd_T54 x1 x5).f5)) || (!(((rd_T54 x0 x5).f6) == ((rd_T54 x1 x5).f6))))))))) = true then (some false) else (crierlaw21_same.l0 k x0 x1 (wrap64 (x5 + 1)))) else (none)) else (none)) else (some true)
def crierlaw21_same.f (k : Nat) (l0 : List (S54)) (l1 : List (S54)) : Option (Bool) := if (l0.length : Int) = (l1.length : Int) then (crierlaw21_same.l0 k l0 l1 0) else (some false)
set_option maxHeartbeats 8000000 in
set_option maxRecDepth 100000 in
theorem crierlaw21_same.calls (k : Nat) (A0 : Option Addr) (c0 : Nat) (l0 : List (S54)) (A1 : Option Addr) (c1 : Nat) (l1 : List (S54)) (r : Bool) (w : World) (hr0 : Kd.C k54 w A0 l0.length l0) (hc0 : l0.length ≤ c0) (hr1 : Kd.C k54 w A1 l1.length l1) (hc1 : l1.length ≤ c1) (h : crierlaw21_same.f k l0 l1 = some r) :
    Calls Try.prog 21 #[.slice A0 l0.length c0, .slice A1 l1.length c1] w fun e w' => e = .returned (.bool r) ∧ Drawn0 w w' := by
  have hu54 := Try.underlying54
  have HR0 := Aside0.mk hr0
  have HC0 := Aside0.mk hc0
  clear hr0 hc0
  have HR1 := Aside0.mk hr1
  have HC1 := Aside0.mk hc1
  clear hr1 hc1
  have H : (if (l0.length : Int) = (l1.length : Int) then (crierlaw21_same.l0 k l0 l1 0) else (some false)) = some r := h
  clear h
  by_cases c3 : (l0.length : Int) = (l1.length : Int)
  · rw [if_pos c3] at H
    have c3b0 : ((l0.length : Int) == (l1.length : Int)) = true := beq_iff_eq.mpr c3
    have c3b1 : ((l0.length : Int) != (l1.length : Int)) = false := bne_eq_false_iff_eq.mpr c3
    have c3b2 : (l0.length == l1.length) = true := by first | simpa using c3 | (simp at c3 ⊢; omega)
    clear c3
    have H' := Aside0.mk H
    clear H
    go_enter Try.func21, Try.ntmps21
    go_wp2
    repeat (go_quiet (fail); try go_wp2)
    go_loopg [5] k (fun kq v5 w' => ∃ (x5_1 : Int), v5 = .int .i64 x5_1 ∧ Aside0 (crierlaw21_same.l0 kq l0 l1 x5_1 = some r) ∧ Aside0 (kq ≤ k) ∧ Drawn0 w w')
    case atStart => exact ⟨(0), (by first | rfl | (simp; done) | (simp [*]; done) | (simp; exact (IntWalk.wrap64_in _ (by decide)).symm)), H', ⟨Nat.le_refl _⟩, by repeat (first | exact Drawn0.refl _ | apply Drawn0.step)⟩
    case round =>
      clear H'
      try clear c1
      try clear c2
      try clear p2
      try clear c3
      try clear c3b0
      try clear c3b1
      try clear c3b2
      obtain ⟨x5_1, rfl, HA, HK1, ⟨m1, rfl⟩⟩ := hrel
      cases gk with
      | zero => exact absurd HA.out (by simp [crierlaw21_same.l0])
      | succ k1 =>
        have H := HA.out
        clear HA
        simp only [crierlaw21_same.l0] at H
        by_cases c4 : x5_1 < (l0.length : Int)
        · rw [if_pos c4] at H
          have c4b0 : decide (x5_1 < (l0.length : Int)) = true := decide_eq_true c4
          clear c4
          by_cases c5 : 0 ≤ x5_1
          · rw [if_pos c5] at H
            have c5b0 : decide (0 ≤ x5_1) = true := decide_eq_true c5
            clear c5
            by_cases c6 : x5_1 < (l1.length : Int)
            · rw [if_pos c6] at H
              have c6b0 : decide (x5_1 < (l1.length : Int)) = true := decide_eq_true c6
              clear c6
              by_cases c7 : (!(((rd_T54 l0 x5_1).f0) == ((rd_T54 l1 x5_1).f0)) || (!(((rd_T54 l0 x5_1).f1) == ((rd_T54 l1 x5_1).f1)) || (!(((rd_T54 l0 x5_1).f2) == ((rd_T54 l1 x5_1).f2)) || (!(((rd_T54 l0 x5_1).f3) == ((rd_T54 l1 x5_1).f3)) || (!(((rd_T54 l0 x5_1).f4) == ((rd_T54 l1 x5_1).f4)) || (!(((rd_T54 l0 x5_1).f5) == ((rd_T54 l1 x5_1).f5)) || (!(((rd_T54 l0 x5_1).f6) == ((rd_T54 l1 x5_1).f6))))))))) = true
              · rw [if_pos c7] at H
                have c7b0 : (!(((rd_T54 l0 x5_1).f0) == ((rd_T54 l1 x5_1).f0)) || (!(((rd_T54 l0 x5_1).f1) == ((rd_T54 l1 x5_1).f1)) || (!(((rd_T54 l0 x5_1).f2) == ((rd_T54 l1 x5_1).f2)) || (!(((rd_T54 l0 x5_1).f3) == ((rd_T54 l1 x5_1).f3)) || (!(((rd_T54 l0 x5_1).f4) == ((rd_T54 l1 x5_1).f4)) || (!(((rd_T54 l0 x5_1).f5) == ((rd_T54 l1 x5_1).f5)) || (!(((rd_T54 l0 x5_1).f6) == ((rd_T54 l1 x5_1).f6))))))))) = true := c7
                clear c7
                obtain rfl := Option.some.inj H
                have p113 : 0 ≤ (x5_1 : Int) := of_decide_eq_true (by first | (with_reducible assumption) | assumption)
                have q113 : x5_1 < (l0.length : Int) := of_decide_eq_true (by first | (with_reducible assumption) | assumption)
                obtain ⟨ad113, e113, hx113_0, hx113_1, hx113_2, hx113_3, hx113_4, hx113_5, hx113_6⟩ := at_T54 HR0.out x5_1 p113 q113
                cases e113
                replace p113 := eq_true p113
                replace q113 := eq_true q113
                have p114 : 0 ≤ (x5_1 : Int) := of_decide_eq_true (by first | (with_reducible assumption) | assumption)
                have q114 : x5_1 < (l1.length : Int) := of_decide_eq_true (by first | (with_reducible assumption) | assumption)
                obtain ⟨ad114, e114, hx114_0, hx114_1, hx114_2, hx114_3, hx114_4, hx114_5, hx114_6⟩ := at_T54 HR1.out x5_1 p114 q114
                cases e114
                replace p114 := eq_true p114
                replace q114 := eq_true q114
                go_wp2
                repeat (go_quiet (fail); try go_wp2)
                go_ret
                exact ⟨by first | rfl | (simp; done) | (simp [*]; done), by repeat (first | exact Drawn0.refl _ | apply Drawn0.step)⟩
              · rw [if_neg c7] at H
                have c7b0 : (!(((rd_T54 l0 x5_1).f0) == ((rd_T54 l1 x5_1).f0)) || (!(((rd_T54 l0 x5_1).f1) == ((rd_T54 l1 x5_1).f1)) || (!(((rd_T54 l0 x5_1).f2) == ((rd_T54 l1 x5_1).f2)) || (!(((rd_T54 l0 x5_1).f3) == ((rd_T54 l1 x5_1).f3)) || (!(((rd_T54 l0 x5_1).f4) == ((rd_T54 l1 x5_1).f4)) || (!(((rd_T54 l0 x5_1).f5) == ((rd_T54 l1 x5_1).f5)) || (!(((rd_T54 l0 x5_1).f6) == ((rd_T54 l1 x5_1).f6))))))))) = false := by simpa using c7
                clear c7
                have H' := Aside0.mk H
                clear H
                have p113 : 0 ≤ (x5_1 : Int) := of_decide_eq_true (by first | (with_reducible assumption) | assumption)
                have q113 : x5_1 < (l0.length : Int) := of_decide_eq_true (by first | (with_reducible assumption) | assumption)
                obtain ⟨ad113, e113, hx113_0, hx113_1, hx113_2, hx113_3, hx113_4, hx113_5, hx113_6⟩ := at_T54 HR0.out x5_1 p113 q113
                cases e113
                replace p113 := eq_true p113
                replace q113 := eq_true q113
                have p114 : 0 ≤ (x5_1 : Int) := of_decide_eq_true (by first | (with_reducible assumption) | assumption)
                have q114 : x5_1 < (l1.length : Int) := of_decide_eq_true (by first | (with_reducible assumption) | assumption)
                obtain ⟨ad114, e114, hx114_0, hx114_1, hx114_2, hx114_3, hx114_4, hx114_5, hx114_6⟩ := at_T54 HR1.out x5_1 p114 q114
                cases e114
                replace p114 := eq_true p114
                replace q114 := eq_true q114
                go_wp2
                repeat (go_quiet (fail); try go_wp2)
                go_roundg k1
                case measure => have := HK1.out; omega
                case rel => exact ⟨(wrap64 (x5_1 + 1)), (by first | rfl | (simp; done) | (simp [*]; done) | (simp; exact (IntWalk.wrap64_in _ (by decide)).symm)), H', ⟨by have := HK1.out; omega⟩, by repeat (first | exact Drawn0.refl _ | apply Drawn0.step)⟩
            · rw [if_neg c6] at H
              exact absurd H (by simp)
          · rw [if_neg c5] at H
            exact absurd H (by simp)
        · rw [if_neg c4] at H
          have c4b0 : decide (x5_1 < (l0.length : Int)) = false := decide_eq_false c4
          clear c4
          obtain rfl := Option.some.inj H
          go_wp2
          repeat (go_quiet (fail); try go_wp2)
          go_ret
          exact ⟨by first | rfl | (simp; done) | (simp [*]; done), by repeat (first | exact Drawn0.refl _ | apply Drawn0.step)⟩
  · rw [if_neg c3] at H
    have c3b0 : ((l0.length : Int) == (l1.length : Int)) = false := beq_eq_false_iff_ne.mpr c3
    have c3b1 : ((l0.length : Int) != (l1.length : Int)) = true := bne_iff_ne.mpr c3
    have c3b2 : (l0.length == l1.length) = false := by first | simpa using c3 | (simp at c3 ⊢; omega)
    obtain rfl := Option.some.inj H
    go_enter Try.func21, Try.ntmps21
    go_wp2
    repeat (go_quiet (fail); try go_wp2)
    go_ret
    exact ⟨by first | rfl | (simp; done) | (simp [*]; done), by repeat (first | exact Drawn0.refl _ | apply Drawn0.step)⟩
-- NOT PRINTED: function 79 (crierref08_Ladder_Bits)
-- NOT PRINTED: function 57 (crierlaw14_Alike)
end Go.Proofs.Ytkbaghblchlcnaa.IAll
-- Written by the program wip/gen/inj.py of this repository, out of the translation, for this claim. Not trusted: Lean checks it.
namespace Go.Proofs.Ytkbaghblchlcnaa.IAll
open Go.RowKit Go.Proofs.YtkbaghblchlcnaaW.PrintWords Go.Proofs.YtkbaghblchlcnaaW.PrintLast Go.Proofs.YtkbaghblchlcnaaW.PrintMore
attribute [local go_sem] max2_int min2_int max_two min_two max_three min_three max_four min_four   -- for this text's walks alone
set_option linter.unusedVariables false
set_option linter.unusedSimpArgs false
/-! ### crierref20_Waits: function 80 -/
def crierref20_Waits.l0 : Nat → List (S54) → List Int → Int → Option (List Int)
  | 0, _, _, _ => none
  | k + 1, x0, x3, x4 => if x4 < (x0.length : Int) then (if 0 ≤ x4 then (if ((rd_T54 x0 x4).f0) = 1 then (if x3.length < 17592186044416 then (crierref20_Waits.l0 k x0 (x3 ++ [x4]) (wrap64 (x4 + 1))) else (none)) else (crierref20_Waits.l0 k x0 x3 (wrap64 (x4 + 1)))) else (none)) else (some x3)
def crierref20_Waits.f (k : Nat) (l0 : List (S54)) : Option (List Int) := crierref20_Waits.l0 k l0 ([] : List Int) 0
theorem crierref20_Waits.mono_l : ∀ k, (∀ y0 y1 y2, LeO (crierref20_Waits.l0 k y0 y1 y2) (crierref20_Waits.l0 (k + 1) y0 y1 y2))
  | 0 => fun _ _ _ r h => by simp [crierref20_Waits.l0] at h
  | k + 1 => by
    have ih0 := crierref20_Waits.mono_l k
    · intro y0 y1 y2
      unfold crierref20_Waits.l0
      repeat' first
      | (with_reducible exact ih0 _ _ _)
      | (with_reducible exact LeO.refl _)
      | (with_reducible exact LeO.none _)
      | (with_reducible refine LeO.ite ?_ ?_)
      | (with_reducible refine LeO.bind ?_ (fun _ => ?_))
      | exact ih0 _ _ _
      | exact LeO.none _
      | refine LeO.ite ?_ ?_
      | refine LeO.bind ?_ (fun _ => ?_)
theorem crierref20_Waits.mono : ∀ a0 k, LeO (crierref20_Waits.f k a0) (crierref20_Waits.f (k + 1) a0) := by
  intro a0 k
  have ih0 := crierref20_Waits.mono_l k
  unfold crierref20_Waits.f
  repeat' first
      | (with_reducible exact ih0 _ _ _)
      | (with_reducible exact LeO.refl _)
      | (with_reducible exact LeO.none _)
      | (with_reducible refine LeO.ite ?_ ?_)
      | (with_reducible refine LeO.bind ?_ (fun _ => ?_))
      | exact ih0 _ _ _
      | exact LeO.none _
      | refine LeO.ite ?_ ?_
      | refine LeO.bind ?_ (fun _ => ?_)
set_option maxHeartbeats 8000000 in
set_option maxRecDepth 100000 in
theorem crierref20_Waits.calls (k : Nat) (A0 : Option Addr) (c0 : Nat) (l0 : List (S54)) (r : List Int) (w : World) (hr0 : Kd.C k54 w A0 l0.length l0) (hc0 : l0.length ≤ c0) (h : crierref20_Waits.f k l0 = some r) :
    Calls Try.prog 80 #[.slice A0 l0.length c0] w fun e w' => ∃ v0_ : Value, e = .returned (v0_) ∧ Kd.R (Kd.int .i64) 3 w' w.heap.size (fun _ => True) v0_ r ∧ Below w.heap.size w w' := by
  have HR0 := Aside0.mk hr0
  have HC0 := Aside0.mk hc0
  clear hr0 hc0
  have HB := Aside0.mk (Below.refl w.heap.size w)
  have H : (crierref20_Waits.l0 k l0 ([] : List Int) 0) = some r := h
  clear h
  have H' := Aside0.mk H
  clear H
  go_enter Try.func80, Try.ntmps80
  go_wp2
  go_loopg [3, 4] k (fun kq v3 v4 w' => ∃ (x3_1 : List Int) (x4_1 : Int), v4 = .int .i64 x4_1 ∧ Aside0 (crierref20_Waits.l0 kq l0 x3_1 x4_1 = some r) ∧ Aside0 (kq ≤ k) ∧ Aside0 (Kd.R (Kd.int .i64) 3 w' w.heap.size (fun _ => True) v3 x3_1) ∧ Aside0 (Below w.heap.size w w'))
  case atStart => exact ⟨(([] : List Int)), (0), (by first | rfl | (simp; done) | (simp [*]; done) | (simp; exact (IntWalk.wrap64_in _ (by decide)).symm)), H', ⟨Nat.le_refl _⟩, ⟨by first | exact Kd.R_nil _ _ _ _ _ | exact Kd.N_nil _ _ _ _ _ | exact Kd.V_nil _ _ _ _ _ | exact Kd.Q_nil _ _ _ _ _ | exact Kd.S_nil _ _ _ _ _⟩, ⟨by repeat (first | (with_reducible first | exact HB.out | apply below_alloc | apply pw_below_drewN | apply below_drew1) | exact HB.out)⟩⟩
  case round =>
    clear H'
    obtain ⟨x3_1, x4_1, rfl, HA, HK1, HO_3, HB⟩ := hrel
    cases gk with
    | zero => exact absurd HA.out (by simp [crierref20_Waits.l0])
    | succ k1 =>
      have H := HA.out
      clear HA
      simp only [crierref20_Waits.l0] at H
      by_cases c2 : x4_1 < (l0.length : Int)
      · rw [if_pos c2] at H
        have c2b0 : decide (x4_1 < (l0.length : Int)) = true := decide_eq_true c2
        clear c2
        by_cases c3 : 0 ≤ x4_1
        · rw [if_pos c3] at H
          have c3b0 : decide (0 ≤ x4_1) = true := decide_eq_true c3
          clear c3
          by_cases c4 : ((rd_T54 l0 x4_1).f0) = 1
          · rw [if_pos c4] at H
            have c4b0 : (((rd_T54 l0 x4_1).f0) == 1) = true := beq_iff_eq.mpr c4
            have c4b1 : (((rd_T54 l0 x4_1).f0) != 1) = false := bne_eq_false_iff_eq.mpr c4
            clear c4
            by_cases c5 : x3_1.length < 17592186044416
            · rw [if_pos c5] at H
              have LMc5 := Aside0.mk c5
              clear c5
              obtain ⟨y116, hy116⟩ : ∃ y_ : List Int, y_ = (x3_1 ++ [x4_1]) := ⟨_, rfl⟩
              replace H : (crierref20_Waits.l0 k1 l0 y116 (wrap64 (x4_1 + 1))) = some r := by first | (rw [hy116]; with_reducible exact H) | (have H2_ := (Option.bind_some _ _).symm.trans H; rw [hy116]; with_reducible exact H2_) | (have H2_ := (Option.bind_some _ _).symm.trans H; with_reducible exact H2_) | with_reducible exact H | (rw [hy116]; exact H) | exact H
              have Ny116 := Aside0.mk hy116
              clear hy116
              have H' := Aside0.mk H
              clear H
              have p115 : 0 ≤ (x4_1 : Int) := of_decide_eq_true (by first | (with_reducible assumption) | assumption)
              have q115 : x4_1 < (l0.length : Int) := of_decide_eq_true (by first | (with_reducible assumption) | assumption)
              obtain ⟨ad115, e115, hx115_0, hx115_1, hx115_2, hx115_3, hx115_4, hx115_5, hx115_6⟩ := at_T54 HR0.out x4_1 p115 q115
              cases e115
              replace hx115_0 := (HB.out.cell (World.block_lt_of_cell? w _ hx115_0)).trans hx115_0
              replace hx115_1 := (HB.out.cell (World.block_lt_of_cell? w _ hx115_1)).trans hx115_1
              replace hx115_2 := (HB.out.cell (World.block_lt_of_cell? w _ hx115_2)).trans hx115_2
              replace hx115_3 := (HB.out.cell (World.block_lt_of_cell? w _ hx115_3)).trans hx115_3
              replace hx115_4 := (HB.out.cell (World.block_lt_of_cell? w _ hx115_4)).trans hx115_4
              replace hx115_5 := (HB.out.cell (World.block_lt_of_cell? w _ hx115_5)).trans hx115_5
              replace hx115_6 := (HB.out.cell (World.block_lt_of_cell? w _ hx115_6)).trans hx115_6
              replace p115 := eq_true p115
              replace q115 := eq_true q115
              go_wp2_with (first | ((with_reducible refine gate_builtin (b := .append) (xs := #[.tmp 17, .tmp 19]) rfl ?_); at_builtin; refine Kd.R_append (Kd.int .i64) (w0 := w) w.heap.size rfl (.tmp 17) (.tmp 19) 71 3 (.int .i64 0) 8 rfl Try.underlying71 info3 rfl (by decide) (by omega) u3 x3_1 x4_1 [.int .i64 x4_1] (fun _ => True) (fun _ => False) rfl rfl ?aP (fun _ hk => hk.elim) ?aF ?aO ?aB ?aS ?aL ?_; (case aP => exact rfl); (case aB => exact (by repeat (first | (with_reducible first | exact HB.out | apply below_alloc | apply pw_below_drewN | apply below_drew1) | exact HB.out))); (case aF => exact (fun _ _ => trivial)); (case aO => exact (by (with_reducible repeat (first | apply Kd.R_alloc | apply Kd.R_drewN | apply Kd.R_drew)); exact HO_3.out)); (case aS => exact (below_size (by repeat (first | (with_reducible first | exact HB.out | apply below_alloc | apply pw_below_drewN | apply below_drew1) | exact HB.out)))); (case aL => have := LMc5.out; omega); intro v117 w6 ho hb hg hat; rw [← Ny116.out] at ho; have n0_ := Aside0.mk (hb); have n1_ := Aside0.mk (ho); clear HB; clear HO_3; have HB := n0_; have HO118 := n1_; clear n0_ n1_; clear ho hb hg hat))
              go_roundg k1
              case measure => have := HK1.out; omega
              case rel => exact ⟨(y116), (wrap64 (x4_1 + 1)), (by first | rfl | (simp; done) | (simp [*]; done) | (simp; exact (IntWalk.wrap64_in _ (by decide)).symm)), H', ⟨by have := HK1.out; omega⟩, ⟨by (with_reducible repeat (first | apply Kd.R_alloc | apply Kd.R_drewN | apply Kd.R_drew)); exact HO118.out⟩, ⟨by repeat (first | (with_reducible first | exact HB.out | apply below_alloc | apply pw_below_drewN | apply below_drew1) | exact HB.out)⟩⟩
            · rw [if_neg c5] at H
              exact absurd H (by simp)
          · rw [if_neg c4] at H
            have c4b0 : (((rd_T54 l0 x4_1).f0) == 1) = false := beq_eq_false_iff_ne.mpr c4
            have c4b1 : (((rd_T54 l0 x4_1).f0) != 1) = true := bne_iff_ne.mpr c4
            have H' := Aside0.mk H
            clear H
            have p115 : 0 ≤ (x4_1 : Int) := of_decide_eq_true (by first | (with_reducible assumption) | assumption)
            have q115 : x4_1 < (l0.length : Int) := of_decide_eq_true (by first | (with_reducible assumption) | assumption)
            obtain ⟨ad115, e115, hx115_0, hx115_1, hx115_2, hx115_3, hx115_4, hx115_5, hx115_6⟩ := at_T54 HR0.out x4_1 p115 q115
            cases e115
            replace hx115_0 := (HB.out.cell (World.block_lt_of_cell? w _ hx115_0)).trans hx115_0
            replace hx115_1 := (HB.out.cell (World.block_lt_of_cell? w _ hx115_1)).trans hx115_1
            replace hx115_2 := (HB.out.cell (World.block_lt_of_cell? w _ hx115_2)).trans hx115_2
            replace hx115_3 := (HB.out.cell (World.block_lt_of_cell? w _ hx115_3)).trans hx115_3
            replace hx115_4 := (HB.out.cell (World.block_lt_of_cell? w _ hx115_4)).trans hx115_4
            replace hx115_5 := (HB.out.cell (World.block_lt_of_cell? w _ hx115_5)).trans hx115_5
            replace hx115_6 := (HB.out.cell (World.block_lt_of_cell? w _ hx115_6)).trans hx115_6
            replace p115 := eq_true p115
            replace q115 := eq_true q115
            go_wp2
            go_roundg k1
            case measure => have := HK1.out; omega
            case rel => exact ⟨(x3_1), (wrap64 (x4_1 + 1)), (by first | rfl | (simp; done) | (simp [*]; done) | (simp; exact (IntWalk.wrap64_in _ (by decide)).symm)), H', ⟨by have := HK1.out; omega⟩, ⟨by (with_reducible repeat (first | apply Kd.R_alloc | apply Kd.R_drewN | apply Kd.R_drew)); exact HO_3.out⟩, ⟨by repeat (first | (with_reducible first | exact HB.out | apply below_alloc | apply pw_below_drewN | apply below_drew1) | exact HB.out)⟩⟩
        · rw [if_neg c3] at H
          exact absurd H (by simp)
      · rw [if_neg c2] at H
        have c2b0 : decide (x4_1 < (l0.length : Int)) = false := decide_eq_false c2
        clear c2
        obtain rfl := Option.some.inj H
        go_wp2
        go_ret
        exact ⟨_, by first | rfl | (simp [errW_none, errW_some] <;> rfl) | (simp [*, errW_none, errW_some] <;> rfl), by (with_reducible repeat (first | apply Kd.R_alloc | apply Kd.R_drewN | apply Kd.R_drew)); exact HO_3.out, by repeat (first | (with_reducible first | exact HB.out | apply below_alloc | apply pw_below_drewN | apply below_drew1) | exact HB.out)⟩
/-! ### crierref06_Before: function 81 -/
def crierref06_Before.f (a0 : Int) (a1 : Int) (a2 : Int) (a3 : Int) : Option (Bool) := if a0 = a2 then (some (decide (a1 < a3))) else (some (decide (a0 < a2)))
set_option maxHeartbeats 8000000 in
set_option maxRecDepth 100000 in
theorem crierref06_Before.calls (a0 : Int) (a1 : Int) (a2 : Int) (a3 : Int) (r : Bool) (w : World) (h : crierref06_Before.f a0 a1 a2 a3 = some r) :
    Calls Try.prog 81 #[.int .i64 a0, .int .i64 a1, .int .i64 a2, .int .i64 a3] w fun e w' => e = .returned (.bool r) ∧ Drawn0 w w' := by
  have H : (if a0 = a2 then (some (decide (a1 < a3))) else (some (decide (a0 < a2)))) = some r := h
  clear h
  by_cases c5 : a0 = a2
  · rw [if_pos c5] at H
    have c5b0 : (a0 == a2) = true := beq_iff_eq.mpr c5
    have c5b1 : (a0 != a2) = false := bne_eq_false_iff_eq.mpr c5
    clear c5
    obtain rfl := Option.some.inj H
    go_enter Try.func81, Try.ntmps81
    go_wp2
    go_ret
    exact ⟨by first | rfl | (simp; done) | (simp [*]; done), by repeat (first | exact Drawn0.refl _ | apply Drawn0.step)⟩
  · rw [if_neg c5] at H
    have c5b0 : (a0 == a2) = false := beq_eq_false_iff_ne.mpr c5
    have c5b1 : (a0 != a2) = true := bne_iff_ne.mpr c5
    obtain rfl := Option.some.inj H
    go_enter Try.func81, Try.ntmps81
    go_wp2
    go_ret
    exact ⟨by first | rfl | (simp; done) | (simp [*]; done), by repeat (first | exact Drawn0.refl _ | apply Drawn0.step)⟩
end Go.Proofs.Ytkbaghblchlcnaa.IAll
