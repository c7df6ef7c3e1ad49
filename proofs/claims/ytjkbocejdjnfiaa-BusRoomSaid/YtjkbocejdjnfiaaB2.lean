/- The sort of a bus's spans by their addresses; a slice's copy. -/
import Derived.Test.YtjkbocejdjnfiaaB1
import Derived.Test.YtjkbocejdjnfiaaSrt
import Derived.Shelf.SlSortCmp.NoneTotal
namespace Go.Proofs.Ytjkbocejdjnfiaa.Bs
open Go.RowKit Go.Shelf Go.Lib Go.Sort Go.Proofs.Ytjkbocejdjnfiaa.IAll Go.Proofs.YtjkbocejdjnfiaaW.PrintWords Go.Proofs.YtjkbocejdjnfiaaW.PrintLast Go.Proofs.YtjkbocejdjnfiaaW.PrintMore
set_option linter.unusedSimpArgs false
instance : Inhabited S33 := ⟨z33⟩
def EL (s : Sp) : List Value := [.int .i64 s.f0, .int .i64 s.f1, .int .i64 s.f2, .int .i64 s.f3]
def cf (x y : Sp) : Int := Lib.compareInt x.f0 y.f0
theorem lt_is (x y : Sp) : ltOf cf x y = decide (x.f0 < y.f0) := by
  unfold ltOf cf Lib.compareInt
  by_cases h1 : x.f0 < y.f0
  · simp [h1]
  · by_cases h2 : y.f0 < x.f0 <;> simp [h1, h2]
theorem swo : SWO (ltOf cf) where
  irrefl x := by rw [lt_is]; simp
  trans x y z h1 h2 := by rw [lt_is] at *; simp at *; omega
  ntrans x y z h1 h2 := by rw [lt_is] at *; simp at *; omega
theorem compare_c (x y : Int) (W : World) : Calls Try.prog 26 #[.int .i64 x, .int .i64 y] W fun e w' => e = .returned (.int .i64 (Lib.compareInt x y)) ∧ w' = W := by
  unfold Lib.compareInt
  go_enter Try.func26, Try.ntmps26
  by_cases h1 : x < y
  · have h1' := decide_eq_true h1
    go_wp2
    go_ret
    exact ⟨by simp [h1], rfl⟩
  · have h1' := decide_eq_false h1
    by_cases h2 : y < x
    · have h2' := decide_eq_true h2
      go_wp2
      go_ret
      exact ⟨by simp [h1, h2], rfl⟩
    · have h2' := decide_eq_false h2
      go_wp2
      go_ret
      exact ⟨by simp [h1, h2], rfl⟩
theorem closure_c (x y : Sp) (W : World) : Calls Try.prog 25 #[.agg #[.int .i64 x.f0, .int .i64 x.f1, .int .i64 x.f2, .int .i64 x.f3], .agg #[.int .i64 y.f0, .int .i64 y.f1, .int .i64 y.f2, .int .i64 y.f3]] W fun e w' => e = .returned (.int .i64 (cf x y)) ∧ ∃ q os', w' = grow (W.drewN q) os' := by
  have hcon := fun W' => compare_c x.f0 y.f0 W'
  unfold cf
  generalize Lib.compareInt x.f0 y.f0 = r at hcon ⊢
  go_enter Try.func25, Try.ntmps25
  go_wp2_with (go_at_call 26; refine (hcon _).mono ?_; rintro e w' ⟨rfl, rfl⟩)
  go_ret
  exact ⟨rfl, 0, _, by rw [alloc_eq_grow, alloc_eq_grow, grow_grow]; rfl⟩
theorem lays_c (blk off size : Nat) (w : World) : CmpLays Try.prog 25 #[] EL 4 cf blk off size w := fun _ _ _ _ x y => closure_c x y _
theorem Sort_c (blk cap : Nat) (d : Array Sp) (w : World) (hH : HoldsK EL 4 w blk 0 d) (hblk : blk < w.heap.size) (hsz : d.size < 4611686018427387904) :
    Calls Try.prog 24 #[.slice (some ⟨blk, 0, none⟩) d.size cap, .func (.func 25) #[] #[]] w fun e w' => e = .returned (.tuple #[]) ∧ ∃ d' n os, PermIn 0 d.size d d' ∧ SortedIn (ltOf cf) 0 d.size d' ∧ w' = sortWorldK EL 4 w blk 0 n d' os := by
  have eg : ∀ args w, (callFunc 25 args).run Try.prog w = .ok (.enter 25 args) w := enters_of Try.func25 (by kernel_rfl) rfl
  exact AnyQ.slices_SortFunc Try.sortSp 4 Try.isAgg33 Try.sizeOf33 EL (fun _ => rfl) (fun x v hv => by simp [EL] at hv; rcases hv with rfl | rfl | rfl | rfl <;> rfl) cf swo 25 #[] blk 0 cap d w eg (lays_c blk 0 d.size w) hH hblk hsz
theorem Sort_none (p : Option Addr) (cap : Nat) (fv : Value) (w : World) : Calls Try.prog 24 #[.slice p 0 cap, fv] w fun e w' => e = .returned (.tuple #[]) ∧ w' = w := AnyF.slices_SortFunc_none Try.sortSp p cap fv w
end Go.Proofs.Ytjkbocejdjnfiaa.Bs
