/- Contracts by hand of layer 20: what is told of all list registers. -/
import Derived.Test.YtbhideabefjadaaH2
import Derived.RegionIn
namespace Go.Proofs.Ytbhideabefjadaa
open Go.RowKit Go.Shelf Go.Proofs.YtbhideabefjadaaW.PrintWords Go.Proofs.YtbhideabefjadaaW.PrintMore Go.Proofs.Ytbhideabefjadaa.IAll
attribute [local go_sem] Oper.semAt_some
def pFree (x : S24) : Bool := x.f0 == 0
def pWaits (x : S24) : Bool := x.f0 == 1
theorem places_length (p : S24 → Bool) (xs : List S24) : (places p xs).length ≤ xs.length := pl_length p xs xs.length
set_option maxRecDepth 100000 in
set_option maxHeartbeats 1000000 in
theorem Used_c (A : Option Addr) (c : Nat) (xs : List S24) (w : World) (hC : Kd.C k24 w A xs.length xs) (hxs : xs.length ≤ 9223372036854775807) : Calls Try.prog 25 #[.slice A xs.length c] w fun e w' =>
    e = .returned (.int .i64 ((xs.length : Int) - (places pFree xs).length)) ∧ Below w.heap.size w w' := by
  refine calls_of_wide ?_
  refine callsIn_of_wp_marks Try.func25 rfl trivial ?_ rfl
  simp only [Try.ntmps25, List.size_toArray, List.length_cons, List.length_nil, Nat.reduceAdd, Nat.reduceSub, Array.replicate_succ, Array.replicate_zero, List.push_toArray, List.append_toArray, List.nil_append, List.cons_append]
  gi_wp2_with (gi_at_call 13; refine (in_of_calls (Free_c _ _ _ _)).mono ?_; rintro e w' ⟨rfl, rfl⟩)
  generalize hw0 : w.alloc (.cells #[.int .i64 (xs.length : Int)] 3) = w0
  have hs0 : w0.heap.size = w.heap.size + 1 := by rw [← hw0]; simp
  have hC0 : Kd.C k24 w0 A xs.length xs := by rw [← hw0]; exact Kd.C_below hC ((Below.refl _ w).alloc (Nat.le_refl _) _)
  have hb0 : Below w.heap.size w w0 := by rw [← hw0]; exact (Below.refl _ w).alloc (Nat.le_refl _) _
  have hN0 : Boxed w0 w.heap.size 3 (.int .i64 (xs.length : Int)) := by rw [← hw0]; exact Boxed.new w 3 _
  have hb1 := two_below A xs.length c (.func (.func 28) #[] #[]) w0
  have hs1 := two_size A xs.length c (.func (.func 28) #[] #[]) w0
  have hN1 : Boxed (two A xs.length c (.func (.func 28) #[] #[]) w0) w.heap.size 3 (.int .i64 (xs.length : Int)) := (hb1.block _ (by omega)).trans hN0
  have hit := seq_iter pFree 28 #[] A c xs (fun _ => False) w0 hC0 hxs (fun k h => h.elim) (free_in _ _ _) (enters_of Try.func28 (by kernel_rfl) rfl)
  have hSl : ∀ k, SeqS A xs.length w0.heap.size (fun _ => False) k → k < (two A xs.length c (.func (.func 28) #[] #[]) w0).heap.size := fun k hk => hk.lt hC0 (by omega) (by omega) (fun k h => h.elim)
  have hSn : ∀ k, SeqS A xs.length w0.heap.size (fun _ => False) k → k ≠ w.heap.size := by
    rintro k (h | rfl | rfl | h)
    · have := h.lt hC; omega
    · omega
    · omega
    · exact h.elim
  generalize two A xs.length c (.func (.func 28) #[] #[]) w0 = W1 at *
  have hB1 : Below w.heap.size w W1 := hb0.trans (hb1.mono (by omega))
  refine wp_range (Pv := NoCells) (fun _ h => h) rfl (enters_of Try.func35 (by kernel_rfl) rfl) hit (Below.refl _ _)
    (fun h k => h.trans k) (KeepsS.put hSl) (fun _ => rfl)
    (fun pre W => Boxed W w.heap.size 3 (.int .i64 ((xs.length : Int) - pre.length)) ∧ Below w.heap.size w W) (fun _ _ _ => False)
    ((OwnP.box NoCells (by omega) 3 (fun pre : List Int => .int .i64 ((xs.length : Int) - pre.length))).and (OwnP.below NoCells (by omega) (by omega))) (fun _ => OwnP.const _ _ (fun _ => False))
    ⟨by simpa using hN1, hB1⟩ ?round ?done ?stop
  case round =>
    rintro l pre x post W hps hl hlt ⟨hb, hB⟩
    clear hit hN0 hN1 hb0 hb1 hB1 hC0 hSl
    have hle : pre.length + 1 ≤ xs.length := by
      have h := places_length pFree xs
      rw [hps] at h; simp at h; omega
    clear hps hw0
    gi_wp2
    refine ⟨KeepsFrom.refl _ _, KeepsS.refl _ _ _, ⟨hb, hB⟩, ?_⟩
    clear hb hB
    rintro W2 hg ⟨hb, hB⟩
    have hc := hb.cell
    have hf := hb.frozen
    clear hg
    gi_wp2
    refine ⟨(KeepsOthers.setCell _ _ _).from _, KeepsS.set (p := ⟨w.heap.size, 0, none⟩) hb (fun h => h) hSn _, ?_, hB.setCell (p := ⟨w.heap.size, 0, none⟩) (by simp) _⟩
    have := hb.set (.int .i64 ((xs.length : Int) - (pre.length : Int) - 1))
    rwa [show ((xs.length : Int) - ((pre ++ [x]).length : Int)) = (xs.length : Int) - (pre.length : Int) - 1 by simp; omega]
  case done =>
    rintro D W hD ⟨hb, hB⟩ hK
    have hc := hb.cell
    gi_wp2
    refine leave_mark hK (v := .int .i64 ((xs.length : Int) - ((places pFree xs).length : Int))) (by simp [results, Try.results25, go_sem]) ⟨rfl, below_putD hB (by omega) _⟩
  case stop =>
    rintro D c pre x post W _ _ h _
    exact h.elim
end Go.Proofs.Ytbhideabefjadaa
