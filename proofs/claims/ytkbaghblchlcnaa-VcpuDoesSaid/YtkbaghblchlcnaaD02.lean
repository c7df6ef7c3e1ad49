/- Texts of this claim, put together: Sets. -/
import Derived.Test.YtkbaghblchlcnaaD01
namespace Go.Proofs.Ytkbaghblchlcnaa
open Go.RowKit Go.Shelf
theorem KeepsS.drew_ {S : Nat → Prop} {T : TypeId → Prop} {W W' : World} (h : KeepsS S T W W') : KeepsS S T W W'.drew := ⟨h.size, h.same, h.kind⟩
theorem KeepsFrom.drew_ {B : Nat} {W W' : World} (h : KeepsFrom B W W') : KeepsFrom B W W'.drew := ⟨h.size, h.same⟩
theorem below_drew_ {B : Nat} {W W' : World} (h : Below B W W') : Below B W W'.drew := ⟨h.os, h.tape, h.output, h.size, h.block⟩
theorem below_of_alloc {W W' : World} {o : Obj} (h : Below (W.alloc o).heap.size (W.alloc o) W') : Below W.heap.size W W' :=
  ((Below.refl _ W).alloc (Nat.le_refl _) o).trans (h.mono (by simp))
theorem grown_of_below {W W' : World} (h : Below W.heap.size W W') : W.grownBy W' none := ⟨h.os, h.tape, h.output, h.size, fun k hk _ => h.block k hk⟩
theorem OwnP.under {β : Type} {Pv : Obj → Prop} {B : Nat} {I : β → World → Prop} (h : OwnP Pv B I) {s : β} {W W' : World} (hs : I s W) (hb : Below W.heap.size W W') : I s W' :=
  h s W W' none hs (grown_of_below hb) (fun r e => by cases e)
theorem cell_lt {w : World} {a : Addr} {v : Value} (h : w.cell? a = some v) : a.block < w.heap.size := by
  unfold World.cell? at h
  rcases Nat.lt_or_ge a.block w.heap.size with hl | hl
  · exact hl
  · rw [Array.getElem?_eq_none hl] at h; simp at h
theorem blk_add (a : Addr) (i : Nat) : (a.add i).block = a.block := by unfold Addr.add; split <;> rfl
/-- some cells of block B are written -/
def setL (B : Nat) : List (Nat × Value) → World → World
  | [], W => W
  | (i, v) :: l, W => setL B l (W.setCell ⟨B, i, none⟩ v)
def putL : List (Nat × Value) → Array Value → Array Value
  | [], vs => vs
  | (i, v) :: l, vs => putL l (vs.setIfInBounds i v)
structure SetsOk (B : Nat) (t : TypeId) (vs' : Array Value) (W W' : World) : Prop where
  box : BoxN W' B t vs'
  others : KeepsOthers W W'
  size : W'.heap.size = W.heap.size
  block : ∀ k, k ≠ B → W'.heap[k]? = W.heap[k]?
  keeps : ∀ (S : Nat → Prop) (T : TypeId → Prop), ¬ T t → (∀ k, S k → k ≠ B) → KeepsS S T W W'
  below : ∀ (n₀ : Nat) (w : World), n₀ ≤ B → Below n₀ w W → Below n₀ w W'
theorem set_all (B : Nat) (t : TypeId) : ∀ (l : List (Nat × Value)) (W : World) (vs : Array Value), BoxN W B t vs → SetsOk B t (putL l vs) W (setL B l W) := by
  intro l
  induction l with
  | nil => intro W vs h; exact ⟨h, KeepsOthers.refl W, rfl, fun _ _ => rfl, fun S T _ _ => KeepsS.refl S T W, fun _ _ _ hb => hb⟩
  | cons p l ih =>
    intro W vs h
    obtain ⟨i, v⟩ := p
    have h2 := ih (W.setCell ⟨B, i, none⟩ v) (vs.setIfInBounds i v) (h.set i v)
    refine ⟨h2.box, (KeepsOthers.setCell _ _ _).trans h2.others, h2.size.trans (by simp), fun k hk => (h2.block k hk).trans (Below.heap_setCell W ⟨B, i, none⟩ v k hk), fun S T hT hS => ?_, fun n₀ w hn hb => h2.below n₀ w hn (hb.setCell (p := ⟨B, i, none⟩) hn v)⟩
    exact (KeepsS.set (p := ⟨B, i, none⟩) h hT hS v).trans (h2.keeps S T hT hS)
theorem SetsOk.boxN {B : Nat} {t : TypeId} {vs' : Array Value} {W W' : World} (h : SetsOk B t vs' W W') {b : Nat} {t' : TypeId} {us : Array Value} (hb : BoxN W b t' us) (hne : b ≠ B) : BoxN W' b t' us := (h.block b hne).trans hb
theorem SetsOk.boxed {B : Nat} {t : TypeId} {vs' : Array Value} {W W' : World} (h : SetsOk B t vs' W W') {b : Nat} {t' : TypeId} {u : Value} (hb : Boxed W b t' u) (hne : b ≠ B) : Boxed W' b t' u := (h.block b hne).trans hb
end Go.Proofs.Ytkbaghblchlcnaa
