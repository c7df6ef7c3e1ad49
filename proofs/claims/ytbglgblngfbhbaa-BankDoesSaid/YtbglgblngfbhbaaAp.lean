/- Some blocks may turn, all else lies as it lay. Generic text. -/
import Derived.Test.YtbglgblngfbhbaaHin
namespace Go.Proofs.Ytbglgblngfbhbaa
open Go.RowKit Go.Shelf
/-- the blocks of P may have turned; of what lay all else lies as it lay -/
structure AsideP (P : Nat → Prop) (w w' : World) : Prop where
  os : w'.os = w.os
  tape : w'.tape = w.tape
  output : w'.output = w.output
  size : w.heap.size ≤ w'.heap.size
  block : ∀ k, k < w.heap.size → ¬ P k → w'.heap[k]? = w.heap[k]?
section
variable {P : Nat → Prop} {g h k : Nat} {w W w1 w2 : World} {cs : Array Value} {v : Value}
theorem AsideP.of_below (b : Below w.heap.size w W) : AsideP P w W := ⟨b.os, b.tape, b.output, b.size, fun k hk _ => b.block k hk⟩
theorem AsideP.trans (a : AsideP P w w1) (b : AsideP P w1 w2) : AsideP P w w2 :=
  ⟨b.os.trans a.os, b.tape.trans a.tape, b.output.trans a.output, Nat.le_trans a.size b.size, fun k hk h1 => (b.block k (Nat.lt_of_lt_of_le hk a.size) h1).trans (a.block k hk h1)⟩
theorem AsideP.low (a : AsideP P w W) (b : Below W.heap.size W w2) : AsideP P w w2 := a.trans (.of_below b)
theorem AsideP.below {n : Nat} {a : World} (b : AsideP P w W) (hb : Below n a w) (hP : ∀ k, P k → n ≤ k) (hn : n ≤ w.heap.size) : Below n a W :=
  ⟨b.os.trans hb.os, b.tape.trans hb.tape, b.output.trans hb.output, Nat.le_trans hb.size b.size, fun k hk => (b.block k (by omega) (fun e => by have := hP k e; omega)).trans (hb.block k hk)⟩
theorem AsideP.row (a : AsideP P w W) (hr : Row w k cs) (h1 : ¬ P k) : Row W k cs := hr.same (a.block k hr.lt h1)
theorem asideP_alloc_e {o : Obj} (hs : w.heap.size ≤ W.heap.size) : AsideP P w (W.alloc o) = AsideP P w W := propext ⟨fun a => ⟨a.os, a.tape, a.output, hs, fun k hk h1 => by
    rw [← a.block k hk h1]
    show W.heap[k]? = (W.heap.push o)[k]?
    rw [Array.getElem?_push, if_neg (by omega)]⟩, fun a => a.trans (.of_below ((Below.refl _ W).alloc (Nat.le_refl _) o))⟩
theorem asideP_setCell_e {p : Addr} (hp : P p.block ∨ w.heap.size ≤ p.block) : AsideP P w (W.setCell p v) = AsideP P w W := propext
  ⟨fun a => ⟨a.os, a.tape, a.output, by simpa using a.size, fun k hk h1 => by
    rw [← a.block k hk h1]
    exact (Below.heap_setCell W p v k (fun e => by subst e; rcases hp with hp | hp; exact h1 hp; omega)).symm⟩,
   fun a => ⟨a.os, a.tape, a.output, by simpa using a.size, fun k hk h1 => (Below.heap_setCell W p v k (fun e => by subst e; rcases hp with hp | hp; exact h1 hp; omega)).trans (a.block k hk h1)⟩⟩
theorem asideP_setRow_e {p : Nat} (hp : P p ∨ w.heap.size ≤ p) : AsideP P w (W.setRow p cs) = AsideP P w W := propext
  ⟨fun a => ⟨a.os, a.tape, a.output, by simpa using a.size, fun k hk h1 => by
    rw [← a.block k hk h1]
    exact (setRow_other W p k cs (fun e => by subst e; rcases hp with hp | hp; exact h1 hp; omega)).symm⟩,
   fun a => ⟨a.os, a.tape, a.output, by simpa using a.size, fun k hk h1 => (setRow_other W p k cs (fun e => by subst e; rcases hp with hp | hp; exact h1 hp; omega)).trans (a.block k hk h1)⟩⟩
theorem asideP_drew_e : AsideP P w W.drew = AsideP P w W := propext ⟨fun a => ⟨a.os, a.tape, a.output, a.size, a.block⟩, fun a => ⟨a.os, a.tape, a.output, a.size, a.block⟩⟩
theorem asideP_drewN_e {n : Nat} : AsideP P w (W.drewN n) = AsideP P w W := propext ⟨fun a => ⟨a.os, a.tape, a.output, a.size, a.block⟩, fun a => ⟨a.os, a.tape, a.output, a.size, a.block⟩⟩
theorem asideP_refl_e : AsideP P w w = True := propext ⟨fun _ => trivial, fun _ => .of_below (Below.refl _ _)⟩
end
def In3 (a b c k : Nat) : Prop := k = a ∨ k = b ∨ k = c
theorem in3a {a b c : Nat} : In3 a b c a := .inl rfl
theorem in3b {a b c : Nat} : In3 a b c b := .inr (.inl rfl)
theorem in3c {a b c : Nat} : In3 a b c c := .inr (.inr rfl)
theorem cell_low {w w' : World} {a : Addr} {v : Value} (h : w.cell? a = some v) (hb : Below w.heap.size w w') : w'.cell? a = some v := (hb.cell (World.block_lt_of_cell? w _ h)).trans h
theorem heap_low {w w' : World} {k : Nat} {o : Obj} (h : w.heap[k]? = some o) (hb : Below w.heap.size w w') : w'.heap[k]? = some o := (hb.block k (Array.getElem?_eq_some_iff.1 h).1).trans h
theorem cell_setRow_far {w : World} {g : Nat} {cs : Array Value} {a : Addr} (h : ¬ g = a.block) : (w.setRow g cs).cell? a = w.cell? a := World.cell?_of_block (setRow_other w g a.block cs (fun e => h e.symm))
theorem cell_setCell_far {w : World} {p : Addr} {v : Value} {a : Addr} (h : ¬ p.block = a.block) : (w.setCell p v).cell? a = w.cell? a := World.cell?_of_block (Below.heap_setCell w p v a.block (fun e => h e.symm))
theorem heap_setCell_far {w : World} {p : Addr} {v : Value} {k : Nat} (h : ¬ k = p.block) : (w.setCell p v).heap[k]? = w.heap[k]? := Below.heap_setCell w p v k h
theorem heap_setRow_far {w : World} {g : Nat} {cs : Array Value} {k : Nat} (h : ¬ k = g) : (w.setRow g cs).heap[k]? = w.heap[k]? := setRow_other w g k cs h
theorem heap_drew_ {w : World} {k : Nat} : w.drew.heap[k]? = w.heap[k]? := rfl
theorem KeepsFrom.aside {P : Nat → Prop} {B : Nat} {W W' : World} (h : AsideP P W W') (hP : ∀ k, P k → k < B) : KeepsFrom B W W' := ⟨h.size, fun k o hB hi _ => (h.block k (Array.getElem?_eq_some_iff.1 hi).1 (fun e => by have := hP k e; omega)).trans hi⟩
theorem cell_drew_ {w : World} {a : Addr} : w.drew.cell? a = w.cell? a := rfl
end Go.Proofs.Ytbglgblngfbhbaa
