/- The world at hand gets a letter, with what is known of it; rules on worlds. Generic text. -/
import Derived.Test.YtbglgblngfbhbaaRw
namespace Go.Proofs.Ytbglgblngfbhbaa
open Go.RowKit Go.Shelf
theorem wp_named {P : Program} {c : Code} {Q : Exit → Act → World → Prop} {a : Act} {w : World} (K : World → Prop) (hK : K w) (h : ∀ W, K W → Code.wp P c Q a W) : Code.wp P c Q a w := h w hK
theorem calls_named {P : Program} {f : FuncId} {args : Array Value} {R : Ending → World → Prop} {w : World} (K : World → Prop) (hK : K w) (h : ∀ W, K W → Calls P f args W R) : Calls P f args w R := h w hK
theorem exit_named {K : Act → World → Prop} {Q : Exit → Act → World → Prop} {e : Exit} {a : Act} {w : World} (P : World → Prop) (hP : P w) (h : ∀ W, P W → Exit.then K Q e a W) : Exit.then K Q e a w := h w hP
section
variable {w a W : World} {g n : Nat} {v : Value} {p : Addr} {cs : Array Value} {o : Obj} {t : TypeId}
theorem rowAt_new' (h : g = w.heap.size) : rowAt (w.alloc (.cells cs t)) g = cs := by subst h; exact rowAt_new
theorem below_alloc_e (hn : n ≤ W.heap.size) (ha : a.heap.size ≤ W.heap.size) : Below n a (W.alloc o) = Below n a W := propext ⟨fun h => ⟨h.os, h.tape, h.output, ha, fun k hk => by
    rw [← h.block k hk]
    show W.heap[k]? = (W.heap.push o)[k]?
    rw [Array.getElem?_push, if_neg (by omega)]⟩, fun h => h.alloc hn o⟩
theorem below_setCell_e (hp : n ≤ p.block) : Below n a (W.setCell p v) = Below n a W := propext ⟨fun h => ⟨h.os, h.tape, h.output, by simpa using h.size, fun k hk => by
    rw [← h.block k hk]
    exact (Below.heap_setCell W p v k (by omega)).symm⟩, fun h => h.setCell hp v⟩
theorem below_setRow_e {k : Nat} (hp : n ≤ k) : Below n a (W.setRow k cs) = Below n a W := propext ⟨fun h => ⟨h.os, h.tape, h.output, by simpa using h.size, fun i hi => by
    rw [← h.block i hi]
    exact (setRow_other W k i cs (by omega)).symm⟩, fun h => below_setRow h hp cs⟩
theorem isRow_drewN {k : Nat} : isRow (w.drewN k) g = isRow w g := propext ⟨fun h => h, fun h => h⟩
theorem rowAt_drewN {k : Nat} : rowAt (w.drewN k) g = rowAt w g := by unfold rowAt; rfl
theorem below_drewN_e {k : Nat} : Below n a (W.drewN k) = Below n a W := propext ⟨fun h => ⟨h.os, h.tape, h.output, h.size, h.block⟩, fun h => ⟨h.os, h.tape, h.output, h.size, h.block⟩⟩
theorem isRow_new' (h : g = w.heap.size) : isRow (w.alloc (.cells cs t)) g = True := propext ⟨fun _ => trivial, fun _ => by subst h; exact isRow_new⟩
theorem size_drew_ : w.drew.heap.size = w.heap.size := rfl
theorem row_ne (h : isRow w g) : (g = w.heap.size) = False := propext ⟨fun e => by have := h.lt; omega, False.elim⟩
theorem row_ne' (h : isRow w g) : (w.heap.size = g) = False := propext ⟨fun e => by have := h.lt; omega, False.elim⟩
theorem below_refl_e : Below n w w = True := propext ⟨fun _ => trivial, fun _ => Below.refl _ _⟩
end
end Go.Proofs.Ytbglgblngfbhbaa
