-- Written by the program wip/gen/inj.py of this repository, out of the translation, for this claim. Not trusted: Lean checks it.
import Derived.Test.YtpjenhojldcmiaaHC
import Derived.Test.YtpjenhojldcmiaaIAllx0
import Derived.Test.YtpjenhojldcmiaaIAllx4
namespace Go.Proofs.Ytpjenhojldcmiaa.IAll
open Go.RowKit Go.Proofs.YtpjenhojldcmiaaW.PrintWords Go.Proofs.YtpjenhojldcmiaaW.PrintLast Go.Proofs.YtpjenhojldcmiaaW.PrintMore
attribute [local go_sem] max2_int min2_int max_two min_two max_three min_three max_four min_four   -- for this text's walks alone
set_option linter.unusedVariables false
set_option linter.unusedSimpArgs false

/-- A state of type 29 at block g of W; what its slices lead to came in by w0. -/
def IsS29 (w0 W : World) (g : Nat) (f0 : Int) (f1 : Int) (f2 : Int) (f3 : Bool) (f4 : Bool) (f5 : Bool) (f6 : Int) (f7 : Int) : Prop := W.heap[g]? = some (.cells #[.int .i64 f0, .int .i64 f1, .int .i64 f2, .bool f3, .bool f4, .bool f5, .int .u32 f6, .int .u32 f7] 29 (0, 0)) ∧ w0.heap.size ≤ g
theorem IsS29.grown {w0 W : World} {g : Nat} {f0 : Int} {f1 : Int} {f2 : Int} {f3 : Bool} {f4 : Bool} {f5 : Bool} {f6 : Int} {f7 : Int} {W1 : World} {row : Option Nat} (h : IsS29 w0 W g f0 f1 f2 f3 f4 f5 f6 f7) (hw : W.grownBy W1 row) (hne : some g ≠ row) : IsS29 w0 W1 g f0 f1 f2 f3 f4 f5 f6 f7 := by
  obtain ⟨hb, hg⟩ := h
  exact ⟨blk_grown hb hw hne, hg⟩
theorem IsS29.own_neN {w0 W : World} {g : Nat} {f0 : Int} {f1 : Int} {f2 : Int} {f3 : Bool} {f4 : Bool} {f5 : Bool} {f6 : Int} {f7 : Int} {α : Type} {d : Kd α} {e : Nat} {base : Nat} {ok : Nat → Prop} {v : Value} {xs : List α} (h : IsS29 w0 W g f0 f1 f2 f3 f4 f5 f6 f7) (ho : Kd.N d e W base ok v xs) (ht : e ≠ 29) : some g ≠ v.ownBlock := by
  obtain ⟨hb, hg⟩ := h
  exact Kd.N_ne ho hb ht
theorem IsS29.fresh {w0 W : World} {g : Nat} {f0 : Int} {f1 : Int} {f2 : Int} {f3 : Bool} {f4 : Bool} {f5 : Bool} {f6 : Int} {f7 : Int} (h : IsS29 w0 W g f0 f1 f2 f3 f4 f5 f6 f7) : ∀ k, W.heap.size ≤ k → k ≠ g := by
  obtain ⟨hb, hg⟩ := h
  exact Kd.freshB hb
theorem IsS29.kept {w0 W : World} {g : Nat} {f0 : Int} {f1 : Int} {f2 : Int} {f3 : Bool} {f4 : Bool} {f5 : Bool} {f6 : Int} {f7 : Int} {W1 : World} {S : Nat → Prop} (h : IsS29 w0 W g f0 f1 f2 f3 f4 f5 f6 f7) (hk : Kept W W1 S) (hne : ¬ S g) : IsS29 w0 W1 g f0 f1 f2 f3 f4 f5 f6 f7 := by
  obtain ⟨hb, hg⟩ := h
  exact ⟨blk_kept hb hk hne, hg⟩
theorem IsS29.below {w0 W : World} {g : Nat} {f0 : Int} {f1 : Int} {f2 : Int} {f3 : Bool} {f4 : Bool} {f5 : Bool} {f6 : Int} {f7 : Int} {W1 : World} (h : IsS29 w0 W g f0 f1 f2 f3 f4 f5 f6 f7) (hw : Below W.heap.size W W1) : IsS29 w0 W1 g f0 f1 f2 f3 f4 f5 f6 f7 := h.grown (grown_of_below hw none) (by simp)
theorem IsS29.alloc {w0 W : World} {g : Nat} {f0 : Int} {f1 : Int} {f2 : Int} {f3 : Bool} {f4 : Bool} {f5 : Bool} {f6 : Int} {f7 : Int} (h : IsS29 w0 W g f0 f1 f2 f3 f4 f5 f6 f7) (o : Obj) : IsS29 w0 (W.alloc o) g f0 f1 f2 f3 f4 f5 f6 f7 := h.below (below_alloc (Below.refl _ _) o)
theorem IsS29.drewN {w0 W : World} {g : Nat} {f0 : Int} {f1 : Int} {f2 : Int} {f3 : Bool} {f4 : Bool} {f5 : Bool} {f6 : Int} {f7 : Int} (h : IsS29 w0 W g f0 f1 f2 f3 f4 f5 f6 f7) (m : Nat) : IsS29 w0 (W.drewN m) g f0 f1 f2 f3 f4 f5 f6 f7 := h
theorem IsS29.drew {w0 W : World} {g : Nat} {f0 : Int} {f1 : Int} {f2 : Int} {f3 : Bool} {f4 : Bool} {f5 : Bool} {f6 : Int} {f7 : Int} (h : IsS29 w0 W g f0 f1 f2 f3 f4 f5 f6 f7) : IsS29 w0 W.drew g f0 f1 f2 f3 f4 f5 f6 f7 := h
theorem IsS29.at_ {w0 W : World} {g : Nat} {f0 : Int} {f1 : Int} {f2 : Int} {f3 : Bool} {f4 : Bool} {f5 : Bool} {f6 : Int} {f7 : Int} {w' : World} {m : Nat} (hq : W.drewN m = w') (h : IsS29 w0 W g f0 f1 f2 f3 f4 f5 f6 f7) : IsS29 w0 w' g f0 f1 f2 f3 f4 f5 f6 f7 := by subst hq; exact IsS29.drewN h m
theorem IsS29.apart {w0 W : World} {g : Nat} {f0 : Int} {f1 : Int} {f2 : Int} {f3 : Bool} {f4 : Bool} {f5 : Bool} {f6 : Int} {f7 : Int} {α : Type} {d : Kd α} {e : Nat} {base : Nat} {ok : Nat → Prop} {v : Value} {xs : List α} (h : IsS29 w0 W g f0 f1 f2 f3 f4 f5 f6 f7) (ho : d.R e W base ok v xs) (ht : ∀ q, q ∈ e :: d.E → q ≠ 29) : d.R e W base (fun k => ok k ∧ k ≠ g) v xs := by
  obtain ⟨hb, hg⟩ := h
  exact Kd.R_types ho hb ht
theorem IsS29.own_ne {w0 W : World} {g : Nat} {f0 : Int} {f1 : Int} {f2 : Int} {f3 : Bool} {f4 : Bool} {f5 : Bool} {f6 : Int} {f7 : Int} {α : Type} {d : Kd α} {e : Nat} {base : Nat} {ok : Nat → Prop} {v : Value} {xs : List α} (h : IsS29 w0 W g f0 f1 f2 f3 f4 f5 f6 f7) (ho : d.R e W base ok v xs) (ht : e ≠ 29) : some g ≠ v.ownBlock := by
  obtain ⟨hb, hg⟩ := h
  exact Kd.R_ne ho hb ht
theorem IsS29.apartQ {w0 W : World} {g : Nat} {f0 : Int} {f1 : Int} {f2 : Int} {f3 : Bool} {f4 : Bool} {f5 : Bool} {f6 : Int} {f7 : Int} {α : Type} {d : Kd α} {e : Nat} {base : Nat} {ok : Nat → Prop} {v : Value} {xs : List α} (h : IsS29 w0 W g f0 f1 f2 f3 f4 f5 f6 f7) (ho : d.Q e W base ok v xs) (ht : ∀ q, q ∈ e :: d.E → q ≠ 29) : d.Q e W base (fun k => ok k ∧ k ≠ g) v xs := by
  obtain ⟨hb, hg⟩ := h
  exact Kd.Q_types ho hb ht
theorem IsS29.own_neQ {w0 W : World} {g : Nat} {f0 : Int} {f1 : Int} {f2 : Int} {f3 : Bool} {f4 : Bool} {f5 : Bool} {f6 : Int} {f7 : Int} {α : Type} {d : Kd α} {e : Nat} {base : Nat} {ok : Nat → Prop} {v : Value} {xs : List α} (h : IsS29 w0 W g f0 f1 f2 f3 f4 f5 f6 f7) (ho : d.Q e W base ok v xs) (ht : e ≠ 29) : some g ≠ v.ownBlock := by
  obtain ⟨hb, hg⟩ := h
  exact Kd.Q_ne ho hb ht
theorem IsS29.apartS {w0 W : World} {g : Nat} {f0 : Int} {f1 : Int} {f2 : Int} {f3 : Bool} {f4 : Bool} {f5 : Bool} {f6 : Int} {f7 : Int} {α : Type} {d : Kd α} {e : Nat} {base : Nat} {ok : Nat → Prop} {v : Value} {xs : List α} (h : IsS29 w0 W g f0 f1 f2 f3 f4 f5 f6 f7) (ho : d.S e W base ok v xs) (ht : ∀ q, q ∈ e :: d.E → q ≠ 29) : d.S e W base (fun k => ok k ∧ k ≠ g) v xs := by
  obtain ⟨hb, hg⟩ := h
  exact Kd.S_types ho hb ht
theorem IsS29.own_neS {w0 W : World} {g : Nat} {f0 : Int} {f1 : Int} {f2 : Int} {f3 : Bool} {f4 : Bool} {f5 : Bool} {f6 : Int} {f7 : Int} {α : Type} {d : Kd α} {e : Nat} {base : Nat} {ok : Nat → Prop} {v : Value} {xs : List α} (h : IsS29 w0 W g f0 f1 f2 f3 f4 f5 f6 f7) (ho : d.S e W base ok v xs) (ht : e ≠ 29) : some g ≠ v.ownBlock := by
  obtain ⟨hb, hg⟩ := h
  exact Kd.S_ne ho hb ht
theorem IsS29.lt {w0 W : World} {g : Nat} {f0 : Int} {f1 : Int} {f2 : Int} {f3 : Bool} {f4 : Bool} {f5 : Bool} {f6 : Int} {f7 : Int} (h : IsS29 w0 W g f0 f1 f2 f3 f4 f5 f6 f7) : g < W.heap.size := by
  obtain ⟨hb, hg⟩ := h
  exact blk_lt hb
theorem IsS29.ge {w0 W : World} {g : Nat} {f0 : Int} {f1 : Int} {f2 : Int} {f3 : Bool} {f4 : Bool} {f5 : Bool} {f6 : Int} {f7 : Int} (h : IsS29 w0 W g f0 f1 f2 f3 f4 f5 f6 f7) : w0.heap.size ≤ g := by
  obtain ⟨hb, hg⟩ := h
  exact hg
theorem IsS29.ne_blk {w0 W : World} {g : Nat} {f0 : Int} {f1 : Int} {f2 : Int} {f3 : Bool} {f4 : Bool} {f5 : Bool} {f6 : Int} {f7 : Int} {a : Nat} {cs : Array Value} {t : TypeId} {fr : Nat × Nat} (h : IsS29 w0 W g f0 f1 f2 f3 f4 f5 f6 f7) (hb2 : W.heap[a]? = some (.cells cs t fr)) (ht : t ≠ 29) : g ≠ a := by
  obtain ⟨hb, hg⟩ := h
  rintro rfl
  rw [hb] at hb2
  injection hb2 with hb2
  injection hb2 with _ ht2
  exact ht ht2.symm
theorem IsS29.far {w0 W : World} {g : Nat} {f0 : Int} {f1 : Int} {f2 : Int} {f3 : Bool} {f4 : Bool} {f5 : Bool} {f6 : Int} {f7 : Int} {p : Addr} (h : IsS29 w0 W g f0 f1 f2 f3 f4 f5 f6 f7) (hne : g ≠ p.block) (u : Value) : IsS29 w0 (W.setCell p u) g f0 f1 f2 f3 f4 f5 f6 f7 := by
  obtain ⟨hb, hg⟩ := h
  exact ⟨blk_far hb hne u, hg⟩
theorem cellS29_0 {W : World} {g : Nat} {f0 : Int} {f1 : Int} {f2 : Int} {f3 : Bool} {f4 : Bool} {f5 : Bool} {f6 : Int} {f7 : Int} (h : W.heap[g]? = some (.cells #[.int .i64 f0, .int .i64 f1, .int .i64 f2, .bool f3, .bool f4, .bool f5, .int .u32 f6, .int .u32 f7] 29 (0, 0))) : W.cell? ⟨g, 0, none⟩ = some (.int .i64 f0) := (blk_cell h 0).trans rfl
theorem IsS29.set_0 {w0 W : World} {g : Nat} {f0 : Int} {f1 : Int} {f2 : Int} {f3 : Bool} {f4 : Bool} {f5 : Bool} {f6 : Int} {f7 : Int} (h : IsS29 w0 W g f0 f1 f2 f3 f4 f5 f6 f7) (x : Int) : IsS29 w0 (W.setCell ⟨g, 0, none⟩ (.int .i64 x)) g x f1 f2 f3 f4 f5 f6 f7 := by
  obtain ⟨hb, hg⟩ := h
  exact ⟨by simpa using blk_set hb 0 (.int .i64 x), hg⟩
theorem cellS29_1 {W : World} {g : Nat} {f0 : Int} {f1 : Int} {f2 : Int} {f3 : Bool} {f4 : Bool} {f5 : Bool} {f6 : Int} {f7 : Int} (h : W.heap[g]? = some (.cells #[.int .i64 f0, .int .i64 f1, .int .i64 f2, .bool f3, .bool f4, .bool f5, .int .u32 f6, .int .u32 f7] 29 (0, 0))) : W.cell? ⟨g, 1, none⟩ = some (.int .i64 f1) := (blk_cell h 1).trans rfl
theorem IsS29.set_1 {w0 W : World} {g : Nat} {f0 : Int} {f1 : Int} {f2 : Int} {f3 : Bool} {f4 : Bool} {f5 : Bool} {f6 : Int} {f7 : Int} (h : IsS29 w0 W g f0 f1 f2 f3 f4 f5 f6 f7) (x : Int) : IsS29 w0 (W.setCell ⟨g, 1, none⟩ (.int .i64 x)) g f0 x f2 f3 f4 f5 f6 f7 := by
  obtain ⟨hb, hg⟩ := h
  exact ⟨by simpa using blk_set hb 1 (.int .i64 x), hg⟩
theorem cellS29_2 {W : World} {g : Nat} {f0 : Int} {f1 : Int} {f2 : Int} {f3 : Bool} {f4 : Bool} {f5 : Bool} {f6 : Int} {f7 : Int} (h : W.heap[g]? = some (.cells #[.int .i64 f0, .int .i64 f1, .int .i64 f2, .bool f3, .bool f4, .bool f5, .int .u32 f6, .int .u32 f7] 29 (0, 0))) : W.cell? ⟨g, 2, none⟩ = some (.int .i64 f2) := (blk_cell h 2).trans rfl
theorem IsS29.set_2 {w0 W : World} {g : Nat} {f0 : Int} {f1 : Int} {f2 : Int} {f3 : Bool} {f4 : Bool} {f5 : Bool} {f6 : Int} {f7 : Int} (h : IsS29 w0 W g f0 f1 f2 f3 f4 f5 f6 f7) (x : Int) : IsS29 w0 (W.setCell ⟨g, 2, none⟩ (.int .i64 x)) g f0 f1 x f3 f4 f5 f6 f7 := by
  obtain ⟨hb, hg⟩ := h
  exact ⟨by simpa using blk_set hb 2 (.int .i64 x), hg⟩
theorem cellS29_3 {W : World} {g : Nat} {f0 : Int} {f1 : Int} {f2 : Int} {f3 : Bool} {f4 : Bool} {f5 : Bool} {f6 : Int} {f7 : Int} (h : W.heap[g]? = some (.cells #[.int .i64 f0, .int .i64 f1, .int .i64 f2, .bool f3, .bool f4, .bool f5, .int .u32 f6, .int .u32 f7] 29 (0, 0))) : W.cell? ⟨g, 3, none⟩ = some (.bool f3) := (blk_cell h 3).trans rfl
theorem IsS29.set_3 {w0 W : World} {g : Nat} {f0 : Int} {f1 : Int} {f2 : Int} {f3 : Bool} {f4 : Bool} {f5 : Bool} {f6 : Int} {f7 : Int} (h : IsS29 w0 W g f0 f1 f2 f3 f4 f5 f6 f7) (x : Bool) : IsS29 w0 (W.setCell ⟨g, 3, none⟩ (.bool x)) g f0 f1 f2 x f4 f5 f6 f7 := by
  obtain ⟨hb, hg⟩ := h
  exact ⟨by simpa using blk_set hb 3 (.bool x), hg⟩
theorem cellS29_4 {W : World} {g : Nat} {f0 : Int} {f1 : Int} {f2 : Int} {f3 : Bool} {f4 : Bool} {f5 : Bool} {f6 : Int} {f7 : Int} (h : W.heap[g]? = some (.cells #[.int .i64 f0, .int .i64 f1, .int .i64 f2, .bool f3, .bool f4, .bool f5, .int .u32 f6, .int .u32 f7] 29 (0, 0))) : W.cell? ⟨g, 4, none⟩ = some (.bool f4) := (blk_cell h 4).trans rfl
theorem IsS29.set_4 {w0 W : World} {g : Nat} {f0 : Int} {f1 : Int} {f2 : Int} {f3 : Bool} {f4 : Bool} {f5 : Bool} {f6 : Int} {f7 : Int} (h : IsS29 w0 W g f0 f1 f2 f3 f4 f5 f6 f7) (x : Bool) : IsS29 w0 (W.setCell ⟨g, 4, none⟩ (.bool x)) g f0 f1 f2 f3 x f5 f6 f7 := by
  obtain ⟨hb, hg⟩ := h
  exact ⟨by simpa using blk_set hb 4 (.bool x), hg⟩
theorem cellS29_5 {W : World} {g : Nat} {f0 : Int} {f1 : Int} {f2 : Int} {f3 : Bool} {f4 : Bool} {f5 : Bool} {f6 : Int} {f7 : Int} (h : W.heap[g]? = some (.cells #[.int .i64 f0, .int .i64 f1, .int .i64 f2, .bool f3, .bool f4, .bool f5, .int .u32 f6, .int .u32 f7] 29 (0, 0))) : W.cell? ⟨g, 5, none⟩ = some (.bool f5) := (blk_cell h 5).trans rfl
theorem IsS29.set_5 {w0 W : World} {g : Nat} {f0 : Int} {f1 : Int} {f2 : Int} {f3 : Bool} {f4 : Bool} {f5 : Bool} {f6 : Int} {f7 : Int} (h : IsS29 w0 W g f0 f1 f2 f3 f4 f5 f6 f7) (x : Bool) : IsS29 w0 (W.setCell ⟨g, 5, none⟩ (.bool x)) g f0 f1 f2 f3 f4 x f6 f7 := by
  obtain ⟨hb, hg⟩ := h
  exact ⟨by simpa using blk_set hb 5 (.bool x), hg⟩
theorem cellS29_6 {W : World} {g : Nat} {f0 : Int} {f1 : Int} {f2 : Int} {f3 : Bool} {f4 : Bool} {f5 : Bool} {f6 : Int} {f7 : Int} (h : W.heap[g]? = some (.cells #[.int .i64 f0, .int .i64 f1, .int .i64 f2, .bool f3, .bool f4, .bool f5, .int .u32 f6, .int .u32 f7] 29 (0, 0))) : W.cell? ⟨g, 6, none⟩ = some (.int .u32 f6) := (blk_cell h 6).trans rfl
theorem IsS29.set_6 {w0 W : World} {g : Nat} {f0 : Int} {f1 : Int} {f2 : Int} {f3 : Bool} {f4 : Bool} {f5 : Bool} {f6 : Int} {f7 : Int} (h : IsS29 w0 W g f0 f1 f2 f3 f4 f5 f6 f7) (x : Int) : IsS29 w0 (W.setCell ⟨g, 6, none⟩ (.int .u32 x)) g f0 f1 f2 f3 f4 f5 x f7 := by
  obtain ⟨hb, hg⟩ := h
  exact ⟨by simpa using blk_set hb 6 (.int .u32 x), hg⟩
theorem cellS29_7 {W : World} {g : Nat} {f0 : Int} {f1 : Int} {f2 : Int} {f3 : Bool} {f4 : Bool} {f5 : Bool} {f6 : Int} {f7 : Int} (h : W.heap[g]? = some (.cells #[.int .i64 f0, .int .i64 f1, .int .i64 f2, .bool f3, .bool f4, .bool f5, .int .u32 f6, .int .u32 f7] 29 (0, 0))) : W.cell? ⟨g, 7, none⟩ = some (.int .u32 f7) := (blk_cell h 7).trans rfl
theorem IsS29.set_7 {w0 W : World} {g : Nat} {f0 : Int} {f1 : Int} {f2 : Int} {f3 : Bool} {f4 : Bool} {f5 : Bool} {f6 : Int} {f7 : Int} (h : IsS29 w0 W g f0 f1 f2 f3 f4 f5 f6 f7) (x : Int) : IsS29 w0 (W.setCell ⟨g, 7, none⟩ (.int .u32 x)) g f0 f1 f2 f3 f4 f5 f6 x := by
  obtain ⟨hb, hg⟩ := h
  exact ⟨by simpa using blk_set hb 7 (.int .u32 x), hg⟩
theorem IsS29.new (w0 W : World) (f0 : Int) (f1 : Int) (f2 : Int) (f3 : Bool) (f4 : Bool) (f5 : Bool) (f6 : Int) (f7 : Int) (hB : Below w0.heap.size w0 W) : IsS29 w0 (W.alloc (.cells #[.int .i64 f0, .int .i64 f1, .int .i64 f2, .bool f3, .bool f4, .bool f5, .int .u32 f6, .int .u32 f7] 29)) W.heap.size f0 f1 f2 f3 f4 f5 f6 f7 := ⟨by simpa using heap_alloc_new W _, hB.size⟩

/-! ### cpuif_If_Drop: function 14 -/
def cpuif_If_Drop.f (s0_0 : Int) (s0_1 : Int) (s0_2 : Int) (s0_3 : Bool) (s0_4 : Bool) (s0_5 : Bool) (s0_6 : Int) (s0_7 : Int) (a1 : Int) : Option (Bool × Int × Int × Int × Bool × Bool × Bool × Int × Int) := (cpuif_If_Running.f s0_0 s0_1 s0_2 s0_3 s0_4 s0_5 s0_6 s0_7).bind fun bt117 => (if bt117.1 = 255 then (some (false, s0_0, s0_1, s0_2, s0_3, s0_4, s0_5, s0_6, s0_7)) else (if bt117.2 = a1 then ((ladder_Ladder_Drop.f s0_6 s0_7).bind fun bt119 => (some (true, s0_0, s0_1, s0_2, s0_3, s0_4, s0_5, bt119.1, bt119.2.1))) else (some (false, s0_0, s0_1, s0_2, s0_3, s0_4, s0_5, s0_6, s0_7))))
set_option maxHeartbeats 8000000 in
set_option maxRecDepth 100000 in
theorem cpuif_If_Drop.calls (g : Nat) (s0_0 : Int) (s0_1 : Int) (s0_2 : Int) (s0_3 : Bool) (s0_4 : Bool) (s0_5 : Bool) (s0_6 : Int) (s0_7 : Int) (a1 : Int) (r1 : Bool) (r2 : Int) (r3 : Int) (r4 : Int) (r5 : Bool) (r6 : Bool) (r7 : Bool) (r8 : Int) (r9 : Int) (w0 w : World) (hI : IsS29 w0 w g s0_0 s0_1 s0_2 s0_3 s0_4 s0_5 s0_6 s0_7) (hB : Below w0.heap.size w0 w) (h : cpuif_If_Drop.f s0_0 s0_1 s0_2 s0_3 s0_4 s0_5 s0_6 s0_7 a1 = some (r1, r2, r3, r4, r5, r6, r7, r8, r9)) :
    Calls Try.prog 14 #[.pointer (some ⟨g, 0, none⟩), .int .i64 a1] w fun e w' => e = .returned (.bool r1) ∧ IsS29 w0 w' g r2 r3 r4 r5 r6 r7 r8 r9 ∧ Below w0.heap.size w0 w' ∧ KeepBut w w' g none := by
  have hu29 := Try.underlying29
  have hu27 := Try.underlying27
  have HI0 := Aside0.mk hI
  have HK := Aside0.mk (KeepBut.refl w g none)
  have HL := Aside0.mk hB.size
  clear hI
  have HW0 := Aside0.mk hB.size
  have HB := Aside0.mk hB
  clear hB
  have H : ((cpuif_If_Running.f s0_0 s0_1 s0_2 s0_3 s0_4 s0_5 s0_6 s0_7).bind fun bt117 => (if bt117.1 = 255 then (some (false, s0_0, s0_1, s0_2, s0_3, s0_4, s0_5, s0_6, s0_7)) else (if bt117.2 = a1 then ((ladder_Ladder_Drop.f s0_6 s0_7).bind fun bt119 => (some (true, s0_0, s0_1, s0_2, s0_3, s0_4, s0_5, bt119.1, bt119.2.1))) else (some (false, s0_0, s0_1, s0_2, s0_3, s0_4, s0_5, s0_6, s0_7))))) = some (r1, r2, r3, r4, r5, r6, r7, r8, r9) := h
  clear h
  replace H := Option.bind_eq_some_iff.mp H
  obtain ⟨⟨t117, t118⟩, A30, H⟩ := H
  replace H : (if t117 = 255 then (some (false, s0_0, s0_1, s0_2, s0_3, s0_4, s0_5, s0_6, s0_7)) else (if t118 = a1 then ((ladder_Ladder_Drop.f s0_6 s0_7).bind fun bt119 => (some (true, s0_0, s0_1, s0_2, s0_3, s0_4, s0_5, bt119.1, bt119.2.1))) else (some (false, s0_0, s0_1, s0_2, s0_3, s0_4, s0_5, s0_6, s0_7)))) = some (r1, r2, r3, r4, r5, r6, r7, r8, r9) := H
  have A3 := Aside0.mk A30
  clear A30
  by_cases c4 : t117 = 255
  · rw [if_pos c4] at H
    have c4b0 : (t117 == 255) = true := beq_iff_eq.mpr c4
    have c4b1 : (t117 != 255) = false := bne_eq_false_iff_eq.mpr c4
    clear c4
    simp only [Option.some.injEq, Prod.mk.injEq] at H
    obtain ⟨rfl, rfl, rfl, rfl, rfl, rfl, rfl, rfl, rfl⟩ := H
    obtain ⟨HGz5, hgz5⟩ := HI0.out
    have hcz5_0 := cellS29_0 HGz5
    have hcz5_1 := cellS29_1 HGz5
    have hcz5_2 := cellS29_2 HGz5
    have hcz5_3 := cellS29_3 HGz5
    have hcz5_4 := cellS29_4 HGz5
    have hcz5_5 := cellS29_5 HGz5
    have hcz5_6 := cellS29_6 HGz5
    have hcz5_7 := cellS29_7 HGz5
    have hfz5_0 := blk_frozen HGz5 0
    have hfz5_1 := blk_frozen HGz5 1
    have hfz5_2 := blk_frozen HGz5 2
    have hfz5_3 := blk_frozen HGz5 3
    have hfz5_4 := blk_frozen HGz5 4
    have hfz5_5 := blk_frozen HGz5 5
    have hfz5_6 := blk_frozen HGz5 6
    have hfz5_7 := blk_frozen HGz5 7
    clear HGz5 hgz5
    go_enter Try.func14, Try.ntmps14
    go_wp2_with (first | ((with_reducible refine gate_callee (f := 12) rfl ?_); refine goesL_ (some 11) rfl rfl Try.func12 (by kernel_rfl) rfl #[.agg #[.int .i64 s0_0, .int .i64 s0_1, .int .i64 s0_2, .bool s0_3, .bool s0_4, .bool s0_5, .int .u32 s0_6, .int .u32 s0_7]] rfl (by (try simp only [List.map_toArray, List.map_cons, List.map_nil]); first | done | rfl | (simp only [List.length_drop, List.length_take]; rfl)) ?_; (with_reducible refine (cpuif_If_Running.calls s0_0 s0_1 s0_2 s0_3 s0_4 s0_5 s0_6 s0_7 t117 t118 _ A3.out).mono ?_); rintro e w6 ⟨rfl, hb⟩; refine ⟨_, rfl, ?_⟩; have n0_ := Aside0.mk (IsS29.below (by repeat (first | (with_reducible first | exact HI0.out | apply IsS29.alloc | apply IsS29.drewN | apply IsS29.drew | apply IsS29.set_0 | apply IsS29.set_1 | apply IsS29.set_2 | apply IsS29.set_3 | apply IsS29.set_4 | apply IsS29.set_5 | apply IsS29.set_6 | apply IsS29.set_7) | exact HI0.out)) hb); have n1_ := Aside0.mk (KeepBut.trans (by repeat (first | (with_reducible first | exact HK.out | apply KeepBut.set_ | apply keep_drewN | apply keep_drew | apply keep_alloc) | exact HK.out)) (KeepBut.of_below hb g none) (.inl rfl)); have n2_ := Aside0.mk (below_step (by repeat (first | (with_reducible first | exact HB.out | apply below_alloc | apply pw_below_drewN | apply below_drew1 | refine below_set ?_ (IsS29.ge HI0.out)) | exact HB.out)) hb); clear HI0; clear HK; clear HB; have HI0 := n0_; have HK := n1_; have HB := n2_; clear n0_ n1_ n2_; (try clear hb); (try clear hb2); (try clear hk); (try clear hi)))
    go_ret
    exact ⟨by first | rfl | (simp [errW_none, errW_some] <;> rfl) | (simp [*, errW_none, errW_some] <;> rfl), by repeat (first | (with_reducible first | exact HI0.out | apply IsS29.alloc | apply IsS29.drewN | apply IsS29.drew | apply IsS29.set_0 | apply IsS29.set_1 | apply IsS29.set_2 | apply IsS29.set_3 | apply IsS29.set_4 | apply IsS29.set_5 | apply IsS29.set_6 | apply IsS29.set_7) | exact HI0.out), by repeat (first | (with_reducible first | exact HB.out | apply below_alloc | apply pw_below_drewN | apply below_drew1 | refine below_set ?_ (IsS29.ge HI0.out)) | exact HB.out), by repeat (first | (with_reducible first | exact HK.out | apply KeepBut.set_ | apply keep_drewN | apply keep_drew | apply keep_alloc) | exact HK.out)⟩
  · rw [if_neg c4] at H
    have c4b0 : (t117 == 255) = false := beq_eq_false_iff_ne.mpr c4
    have c4b1 : (t117 != 255) = true := bne_iff_ne.mpr c4
    by_cases c7 : t118 = a1
    · rw [if_pos c7] at H
      have c7b0 : (t118 == a1) = true := beq_iff_eq.mpr c7
      have c7b1 : (t118 != a1) = false := bne_eq_false_iff_eq.mpr c7
      clear c7
      replace H := Option.bind_eq_some_iff.mp H
      obtain ⟨⟨t119, t120, t121⟩, A80, H⟩ := H
      replace H : (some (true, s0_0, s0_1, s0_2, s0_3, s0_4, s0_5, t119, t120)) = some (r1, r2, r3, r4, r5, r6, r7, r8, r9) := H
      have A8 := Aside0.mk A80
      clear A80
      simp only [Option.some.injEq, Prod.mk.injEq] at H
      obtain ⟨rfl, rfl, rfl, rfl, rfl, rfl, rfl, rfl, rfl⟩ := H
      obtain ⟨HGz9, hgz9⟩ := HI0.out
      have hcz9_0 := cellS29_0 HGz9
      have hcz9_1 := cellS29_1 HGz9
      have hcz9_2 := cellS29_2 HGz9
      have hcz9_3 := cellS29_3 HGz9
      have hcz9_4 := cellS29_4 HGz9
      have hcz9_5 := cellS29_5 HGz9
      have hcz9_6 := cellS29_6 HGz9
      have hcz9_7 := cellS29_7 HGz9
      have hfz9_0 := blk_frozen HGz9 0
      have hfz9_1 := blk_frozen HGz9 1
      have hfz9_2 := blk_frozen HGz9 2
      have hfz9_3 := blk_frozen HGz9 3
      have hfz9_4 := blk_frozen HGz9 4
      have hfz9_5 := blk_frozen HGz9 5
      have hfz9_6 := blk_frozen HGz9 6
      have hfz9_7 := blk_frozen HGz9 7
      clear HGz9 hgz9
      go_enter Try.func14, Try.ntmps14
      go_wp2_with (first | ((with_reducible refine gate_callee (f := 12) rfl ?_); refine goesL_ (some 11) rfl rfl Try.func12 (by kernel_rfl) rfl #[.agg #[.int .i64 s0_0, .int .i64 s0_1, .int .i64 s0_2, .bool s0_3, .bool s0_4, .bool s0_5, .int .u32 s0_6, .int .u32 s0_7]] rfl (by (try simp only [List.map_toArray, List.map_cons, List.map_nil]); first | done | rfl | (simp only [List.length_drop, List.length_take]; rfl)) ?_; (with_reducible refine (cpuif_If_Running.calls s0_0 s0_1 s0_2 s0_3 s0_4 s0_5 s0_6 s0_7 t117 t118 _ A3.out).mono ?_); rintro e w10 ⟨rfl, hb⟩; refine ⟨_, rfl, ?_⟩; have n0_ := Aside0.mk (IsS29.below (by repeat (first | (with_reducible first | exact HI0.out | apply IsS29.alloc | apply IsS29.drewN | apply IsS29.drew | apply IsS29.set_0 | apply IsS29.set_1 | apply IsS29.set_2 | apply IsS29.set_3 | apply IsS29.set_4 | apply IsS29.set_5 | apply IsS29.set_6 | apply IsS29.set_7) | exact HI0.out)) hb); have n1_ := Aside0.mk (KeepBut.trans (by repeat (first | (with_reducible first | exact HK.out | apply KeepBut.set_ | apply keep_drewN | apply keep_drew | apply keep_alloc) | exact HK.out)) (KeepBut.of_below hb g none) (.inl rfl)); have n2_ := Aside0.mk (below_step (by repeat (first | (with_reducible first | exact HB.out | apply below_alloc | apply pw_below_drewN | apply below_drew1 | refine below_set ?_ (IsS29.ge HI0.out)) | exact HB.out)) hb); clear HI0; clear HK; clear HB; have HI0 := n0_; have HK := n1_; have HB := n2_; clear n0_ n1_ n2_; (try clear hb); (try clear hb2); (try clear hk); (try clear hi); obtain ⟨HGz11, hgz11⟩ := HI0.out; have hcz11_0 := cellS29_0 HGz11; have hcz11_1 := cellS29_1 HGz11; have hcz11_2 := cellS29_2 HGz11; have hcz11_3 := cellS29_3 HGz11; have hcz11_4 := cellS29_4 HGz11; have hcz11_5 := cellS29_5 HGz11; have hcz11_6 := cellS29_6 HGz11; have hcz11_7 := cellS29_7 HGz11; have hfz11_0 := blk_frozen HGz11 0; have hfz11_1 := blk_frozen HGz11 1; have hfz11_2 := blk_frozen HGz11 2; have hfz11_3 := blk_frozen HGz11 3; have hfz11_4 := blk_frozen HGz11 4; have hfz11_5 := blk_frozen HGz11 5; have hfz11_6 := blk_frozen HGz11 6; have hfz11_7 := blk_frozen HGz11 7; clear HGz11 hgz11) | ((with_reducible refine gate_callee (f := 36) rfl ?_); refine goesL_ (some 27) rfl rfl Try.func36 (by kernel_rfl) rfl #[.agg #[.int .u32 s0_6, .int .u32 s0_7]] rfl (by (try simp only [List.map_toArray, List.map_cons, List.map_nil]); first | done | rfl | (simp only [List.length_drop, List.length_take]; rfl)) ?_; (with_reducible refine (ladder_Ladder_Drop.calls s0_6 s0_7 t119 t120 t121 _ A8.out).mono ?_); rintro e w12 ⟨rfl, hb⟩; refine ⟨_, rfl, ?_⟩; have n0_ := Aside0.mk (IsS29.below (by repeat (first | (with_reducible first | exact HI0.out | apply IsS29.alloc | apply IsS29.drewN | apply IsS29.drew | apply IsS29.set_0 | apply IsS29.set_1 | apply IsS29.set_2 | apply IsS29.set_3 | apply IsS29.set_4 | apply IsS29.set_5 | apply IsS29.set_6 | apply IsS29.set_7) | exact HI0.out)) hb); have n1_ := Aside0.mk (KeepBut.trans (by repeat (first | (with_reducible first | exact HK.out | apply KeepBut.set_ | apply keep_drewN | apply keep_drew | apply keep_alloc) | exact HK.out)) (KeepBut.of_below hb g none) (.inl rfl)); have n2_ := Aside0.mk (below_step (by repeat (first | (with_reducible first | exact HB.out | apply below_alloc | apply pw_below_drewN | apply below_drew1 | refine below_set ?_ (IsS29.ge HI0.out)) | exact HB.out)) hb); clear HI0; clear HK; clear HB; have HI0 := n0_; have HK := n1_; have HB := n2_; clear n0_ n1_ n2_; (try clear hb); (try clear hb2); (try clear hk); (try clear hi); obtain ⟨HGz13, hgz13⟩ := HI0.out; have hcz13_0 := cellS29_0 HGz13; have hcz13_1 := cellS29_1 HGz13; have hcz13_2 := cellS29_2 HGz13; have hcz13_3 := cellS29_3 HGz13; have hcz13_4 := cellS29_4 HGz13; have hcz13_5 := cellS29_5 HGz13; have hcz13_6 := cellS29_6 HGz13; have hcz13_7 := cellS29_7 HGz13; have hfz13_0 := blk_frozen HGz13 0; have hfz13_1 := blk_frozen HGz13 1; have hfz13_2 := blk_frozen HGz13 2; have hfz13_3 := blk_frozen HGz13 3; have hfz13_4 := blk_frozen HGz13 4; have hfz13_5 := blk_frozen HGz13 5; have hfz13_6 := blk_frozen HGz13 6; have hfz13_7 := blk_frozen HGz13 7; clear HGz13 hgz13))
      go_ret
      exact ⟨by first | rfl | (simp [errW_none, errW_some] <;> rfl) | (simp [*, errW_none, errW_some] <;> rfl), by repeat (first | (with_reducible first | exact HI0.out | apply IsS29.alloc | apply IsS29.drewN | apply IsS29.drew | apply IsS29.set_0 | apply IsS29.set_1 | apply IsS29.set_2 | apply IsS29.set_3 | apply IsS29.set_4 | apply IsS29.set_5 | apply IsS29.set_6 | apply IsS29.set_7) | exact HI0.out), by repeat (first | (with_reducible first | exact HB.out | apply below_alloc | apply pw_below_drewN | apply below_drew1 | refine below_set ?_ (IsS29.ge HI0.out)) | exact HB.out), by repeat (first | (with_reducible first | exact HK.out | apply KeepBut.set_ | apply keep_drewN | apply keep_drew | apply keep_alloc) | exact HK.out)⟩
    · rw [if_neg c7] at H
      have c7b0 : (t118 == a1) = false := beq_eq_false_iff_ne.mpr c7
      have c7b1 : (t118 != a1) = true := bne_iff_ne.mpr c7
      simp only [Option.some.injEq, Prod.mk.injEq] at H
      obtain ⟨rfl, rfl, rfl, rfl, rfl, rfl, rfl, rfl, rfl⟩ := H
      obtain ⟨HGz14, hgz14⟩ := HI0.out
      have hcz14_0 := cellS29_0 HGz14
      have hcz14_1 := cellS29_1 HGz14
      have hcz14_2 := cellS29_2 HGz14
      have hcz14_3 := cellS29_3 HGz14
      have hcz14_4 := cellS29_4 HGz14
      have hcz14_5 := cellS29_5 HGz14
      have hcz14_6 := cellS29_6 HGz14
      have hcz14_7 := cellS29_7 HGz14
      have hfz14_0 := blk_frozen HGz14 0
      have hfz14_1 := blk_frozen HGz14 1
      have hfz14_2 := blk_frozen HGz14 2
      have hfz14_3 := blk_frozen HGz14 3
      have hfz14_4 := blk_frozen HGz14 4
      have hfz14_5 := blk_frozen HGz14 5
      have hfz14_6 := blk_frozen HGz14 6
      have hfz14_7 := blk_frozen HGz14 7
      clear HGz14 hgz14
      go_enter Try.func14, Try.ntmps14
      go_wp2_with (first | ((with_reducible refine gate_callee (f := 12) rfl ?_); refine goesL_ (some 11) rfl rfl Try.func12 (by kernel_rfl) rfl #[.agg #[.int .i64 s0_0, .int .i64 s0_1, .int .i64 s0_2, .bool s0_3, .bool s0_4, .bool s0_5, .int .u32 s0_6, .int .u32 s0_7]] rfl (by (try simp only [List.map_toArray, List.map_cons, List.map_nil]); first | done | rfl | (simp only [List.length_drop, List.length_take]; rfl)) ?_; (with_reducible refine (cpuif_If_Running.calls s0_0 s0_1 s0_2 s0_3 s0_4 s0_5 s0_6 s0_7 t117 t118 _ A3.out).mono ?_); rintro e w15 ⟨rfl, hb⟩; refine ⟨_, rfl, ?_⟩; have n0_ := Aside0.mk (IsS29.below (by repeat (first | (with_reducible first | exact HI0.out | apply IsS29.alloc | apply IsS29.drewN | apply IsS29.drew | apply IsS29.set_0 | apply IsS29.set_1 | apply IsS29.set_2 | apply IsS29.set_3 | apply IsS29.set_4 | apply IsS29.set_5 | apply IsS29.set_6 | apply IsS29.set_7) | exact HI0.out)) hb); have n1_ := Aside0.mk (KeepBut.trans (by repeat (first | (with_reducible first | exact HK.out | apply KeepBut.set_ | apply keep_drewN | apply keep_drew | apply keep_alloc) | exact HK.out)) (KeepBut.of_below hb g none) (.inl rfl)); have n2_ := Aside0.mk (below_step (by repeat (first | (with_reducible first | exact HB.out | apply below_alloc | apply pw_below_drewN | apply below_drew1 | refine below_set ?_ (IsS29.ge HI0.out)) | exact HB.out)) hb); clear HI0; clear HK; clear HB; have HI0 := n0_; have HK := n1_; have HB := n2_; clear n0_ n1_ n2_; (try clear hb); (try clear hb2); (try clear hk); (try clear hi)))
      go_ret
      exact ⟨by first | rfl | (simp [errW_none, errW_some] <;> rfl) | (simp [*, errW_none, errW_some] <;> rfl), by repeat (first | (with_reducible first | exact HI0.out | apply IsS29.alloc | apply IsS29.drewN | apply IsS29.drew | apply IsS29.set_0 | apply IsS29.set_1 | apply IsS29.set_2 | apply IsS29.set_3 | apply IsS29.set_4 | apply IsS29.set_5 | apply IsS29.set_6 | apply IsS29.set_7) | exact HI0.out), by repeat (first | (with_reducible first | exact HB.out | apply below_alloc | apply pw_below_drewN | apply below_drew1 | refine below_set ?_ (IsS29.ge HI0.out)) | exact HB.out), by repeat (first | (with_reducible first | exact HK.out | apply KeepBut.set_ | apply keep_drewN | apply keep_drew | apply keep_alloc) | exact HK.out)⟩

/-! ### prio_Real: function 37 -/
def prio_Real.f (a0 : Int) : Option (Int) := some (Go.bits .and .i64 a0 248)
set_option maxHeartbeats 8000000 in
set_option maxRecDepth 100000 in
theorem prio_Real.calls (a0 : Int) (r : Int) (w : World) (h : prio_Real.f a0 = some r) :
    Calls Try.prog 37 #[.int .i64 a0] w fun e w' => e = .returned (.int .i64 r) ∧ Drawn0 w w' := by
  have H : (some (Go.bits .and .i64 a0 248)) = some r := h
  clear h
  obtain rfl := Option.some.inj H
  go_enter Try.func37, Try.ntmps37
  go_wp2
  go_ret
  exact ⟨by first | rfl | (simp; done) | (simp [*]; done), by repeat (first | exact Drawn0.refl _ | apply Drawn0.step)⟩

end Go.Proofs.Ytpjenhojldcmiaa.IAll
