/- The walk of PrioOrder: 'Before' is an order. -/
import Derived.Test.YtoldcfgedmjmfaaH
import Derived.Deep.QuietTactic
import Derived.BigQuiet
import Derived.Test.YtoldcfgedmjmfaaL06
namespace Go.Proofs.Ytoldcfgedmjmfaa
open Go.RowKit

def bef' (p a q b : Int) : Bool := decide (p < q ∨ p = q ∧ a < b)
theorem Before_c (p a q b : Int) (w : World) : Calls Try.prog 10 #[.int .i64 p, .int .i64 a, .int .i64 q, .int .i64 b] w fun e w' => e = .returned (.bool (bef' p a q b)) ∧ w' = w := by
  by_cases h : p < q
  · have h1 : bef' p a q b = true := by simp [bef', h]
    go_enter Try.func10, Try.ntmps10
    go_wp2
    go_ret
    exact ⟨by first | rfl | simp [*], rfl⟩
  · by_cases e : p = q
    · have h0 : (p == q) = true := beq_iff_eq.mpr e
      have h1 : bef' p a q b = decide (a < b) := by simp [bef', e]
      clear e
      go_enter Try.func10, Try.ntmps10
      go_wp2
      go_ret
      exact ⟨by first | rfl | simp [*], rfl⟩
    · have h0 : (p == q) = false := beq_eq_false_iff_ne.mpr e
      have h1 : bef' p a q b = false := by simp [bef', h, e]
      go_enter Try.func10, Try.ntmps10
      go_wp2
      go_ret
      exact ⟨by first | rfl | simp [*], rfl⟩

theorem awake_c (w : World) : Calls Try.prog 11 #[] w fun e w' => e = .returned (.bool true) ∧ Below w.heap.size w w' := IAll.crierlaw06_awake.calls true w Pure.awake_true

set_option maxRecDepth 100000 in
set_option maxHeartbeats 2000000 in
theorem ord_t1 (p0 p1 p2 i0 i1 i2 : Int) (w : World) (hS : (p0 == p1) = true) (hT : (i0 == i1) = true) (hX : bef' p0 i0 p1 i1 = false) (hY : bef' p1 i1 p0 i0 = false) :
    Calls Try.prog 3 #[.agg #[.int .i64 p0, .int .i64 p1, .int .i64 p2], .agg #[.int .i64 i0, .int .i64 i1, .int .i64 i2]] w fun e w' => e = .returned (.bool true) ∧ Below w.heap.size w w' := by
  go_enter Try.func3, Try.ntmps3
  go_wp2_with fail
  go_quiet ((go_at_call 10; exact Calls.quiet_of_same (Before_c _ _ _ _ _)))
  go_wp2_with (first | (go_at_call 11; refine (awake_c _).mono ?_; rintro e w1 ⟨rfl, hb⟩) | (go_at_call 10; refine (Before_c _ _ _ _ _).mono ?_; rintro e w1 ⟨rfl, rfl⟩))
  go_ret
  exact ⟨rfl, (below_drawn (((Below.refl _ w).alloc (Nat.le_refl _) _).alloc (by simp) _) _).trans (hb.mono (B' := w.heap.size) (by show w.heap.size ≤ ((w.alloc _).alloc _).heap.size; simp; omega))⟩

set_option maxRecDepth 100000 in
set_option maxHeartbeats 2000000 in
theorem ord_xa (p0 p1 p2 i0 i1 i2 : Int) (w : World) (hS : (p0 == p1) = false) (hX : bef' p0 i0 p1 i1 = true) (hY : bef' p1 i1 p0 i0 = false) (hZ : bef' p1 i1 p2 i2 = false) :
    Calls Try.prog 3 #[.agg #[.int .i64 p0, .int .i64 p1, .int .i64 p2], .agg #[.int .i64 i0, .int .i64 i1, .int .i64 i2]] w fun e w' => e = .returned (.bool true) ∧ Below w.heap.size w w' := by
  go_enter Try.func3, Try.ntmps3
  go_wp2_with fail
  go_quiet ((go_at_call 10; exact Calls.quiet_of_same (Before_c _ _ _ _ _)))
  go_wp2_with (first | (go_at_call 11; refine (awake_c _).mono ?_; rintro e w1 ⟨rfl, hb⟩) | (go_at_call 10; refine (Before_c _ _ _ _ _).mono ?_; rintro e w1 ⟨rfl, rfl⟩))
  go_ret
  exact ⟨rfl, (below_drawn (((Below.refl _ w).alloc (Nat.le_refl _) _).alloc (by simp) _) _).trans (hb.mono (B' := w.heap.size) (by show w.heap.size ≤ ((w.alloc _).alloc _).heap.size; simp; omega))⟩

set_option maxRecDepth 100000 in
set_option maxHeartbeats 2000000 in
theorem ord_ya (p0 p1 p2 i0 i1 i2 : Int) (w : World) (hS : (p0 == p1) = false) (hX : bef' p0 i0 p1 i1 = true) (hY : bef' p1 i1 p0 i0 = false) (hZ : bef' p1 i1 p2 i2 = true) (hV : bef' p0 i0 p2 i2 = true) :
    Calls Try.prog 3 #[.agg #[.int .i64 p0, .int .i64 p1, .int .i64 p2], .agg #[.int .i64 i0, .int .i64 i1, .int .i64 i2]] w fun e w' => e = .returned (.bool true) ∧ Below w.heap.size w w' := by
  go_enter Try.func3, Try.ntmps3
  go_wp2_with fail
  go_quiet ((go_at_call 10; exact Calls.quiet_of_same (Before_c _ _ _ _ _)))
  go_wp2_with (first | (go_at_call 11; refine (awake_c _).mono ?_; rintro e w1 ⟨rfl, hb⟩) | (go_at_call 10; refine (Before_c _ _ _ _ _).mono ?_; rintro e w1 ⟨rfl, rfl⟩))
  go_ret
  exact ⟨rfl, (below_drawn (((Below.refl _ w).alloc (Nat.le_refl _) _).alloc (by simp) _) _).trans (hb.mono (B' := w.heap.size) (by show w.heap.size ≤ ((w.alloc _).alloc _).heap.size; simp; omega))⟩

set_option maxRecDepth 100000 in
set_option maxHeartbeats 2000000 in
theorem ord_za (p0 p1 p2 i0 i1 i2 : Int) (w : World) (hS : (p0 == p1) = false) (hX : bef' p0 i0 p1 i1 = false) (hY : bef' p1 i1 p0 i0 = true) :
    Calls Try.prog 3 #[.agg #[.int .i64 p0, .int .i64 p1, .int .i64 p2], .agg #[.int .i64 i0, .int .i64 i1, .int .i64 i2]] w fun e w' => e = .returned (.bool true) ∧ Below w.heap.size w w' := by
  go_enter Try.func3, Try.ntmps3
  go_wp2_with fail
  go_quiet ((go_at_call 10; exact Calls.quiet_of_same (Before_c _ _ _ _ _)))
  go_wp2_with (first | (go_at_call 11; refine (awake_c _).mono ?_; rintro e w1 ⟨rfl, hb⟩) | (go_at_call 10; refine (Before_c _ _ _ _ _).mono ?_; rintro e w1 ⟨rfl, rfl⟩))
  go_ret
  exact ⟨rfl, (below_drawn (((Below.refl _ w).alloc (Nat.le_refl _) _).alloc (by simp) _) _).trans (hb.mono (B' := w.heap.size) (by show w.heap.size ≤ ((w.alloc _).alloc _).heap.size; simp; omega))⟩

set_option maxRecDepth 100000 in
set_option maxHeartbeats 2000000 in
theorem ord_xb (p0 p1 p2 i0 i1 i2 : Int) (w : World) (hS : (p0 == p1) = true) (hT : (i0 == i1) = false) (hX : bef' p0 i0 p1 i1 = true) (hY : bef' p1 i1 p0 i0 = false) (hZ : bef' p1 i1 p2 i2 = false) :
    Calls Try.prog 3 #[.agg #[.int .i64 p0, .int .i64 p1, .int .i64 p2], .agg #[.int .i64 i0, .int .i64 i1, .int .i64 i2]] w fun e w' => e = .returned (.bool true) ∧ Below w.heap.size w w' := by
  go_enter Try.func3, Try.ntmps3
  go_wp2_with fail
  go_quiet ((go_at_call 10; exact Calls.quiet_of_same (Before_c _ _ _ _ _)))
  go_wp2_with (first | (go_at_call 11; refine (awake_c _).mono ?_; rintro e w1 ⟨rfl, hb⟩) | (go_at_call 10; refine (Before_c _ _ _ _ _).mono ?_; rintro e w1 ⟨rfl, rfl⟩))
  go_ret
  exact ⟨rfl, (below_drawn (((Below.refl _ w).alloc (Nat.le_refl _) _).alloc (by simp) _) _).trans (hb.mono (B' := w.heap.size) (by show w.heap.size ≤ ((w.alloc _).alloc _).heap.size; simp; omega))⟩

set_option maxRecDepth 100000 in
set_option maxHeartbeats 2000000 in
theorem ord_yb (p0 p1 p2 i0 i1 i2 : Int) (w : World) (hS : (p0 == p1) = true) (hT : (i0 == i1) = false) (hX : bef' p0 i0 p1 i1 = true) (hY : bef' p1 i1 p0 i0 = false) (hZ : bef' p1 i1 p2 i2 = true) (hV : bef' p0 i0 p2 i2 = true) :
    Calls Try.prog 3 #[.agg #[.int .i64 p0, .int .i64 p1, .int .i64 p2], .agg #[.int .i64 i0, .int .i64 i1, .int .i64 i2]] w fun e w' => e = .returned (.bool true) ∧ Below w.heap.size w w' := by
  go_enter Try.func3, Try.ntmps3
  go_wp2_with fail
  go_quiet ((go_at_call 10; exact Calls.quiet_of_same (Before_c _ _ _ _ _)))
  go_wp2_with (first | (go_at_call 11; refine (awake_c _).mono ?_; rintro e w1 ⟨rfl, hb⟩) | (go_at_call 10; refine (Before_c _ _ _ _ _).mono ?_; rintro e w1 ⟨rfl, rfl⟩))
  go_ret
  exact ⟨rfl, (below_drawn (((Below.refl _ w).alloc (Nat.le_refl _) _).alloc (by simp) _) _).trans (hb.mono (B' := w.heap.size) (by show w.heap.size ≤ ((w.alloc _).alloc _).heap.size; simp; omega))⟩

set_option maxRecDepth 100000 in
set_option maxHeartbeats 2000000 in
theorem ord_zb (p0 p1 p2 i0 i1 i2 : Int) (w : World) (hS : (p0 == p1) = true) (hT : (i0 == i1) = false) (hX : bef' p0 i0 p1 i1 = false) (hY : bef' p1 i1 p0 i0 = true) :
    Calls Try.prog 3 #[.agg #[.int .i64 p0, .int .i64 p1, .int .i64 p2], .agg #[.int .i64 i0, .int .i64 i1, .int .i64 i2]] w fun e w' => e = .returned (.bool true) ∧ Below w.heap.size w w' := by
  go_enter Try.func3, Try.ntmps3
  go_wp2_with fail
  go_quiet ((go_at_call 10; exact Calls.quiet_of_same (Before_c _ _ _ _ _)))
  go_wp2_with (first | (go_at_call 11; refine (awake_c _).mono ?_; rintro e w1 ⟨rfl, hb⟩) | (go_at_call 10; refine (Before_c _ _ _ _ _).mono ?_; rintro e w1 ⟨rfl, rfl⟩))
  go_ret
  exact ⟨rfl, (below_drawn (((Below.refl _ w).alloc (Nat.le_refl _) _).alloc (by simp) _) _).trans (hb.mono (B' := w.heap.size) (by show w.heap.size ≤ ((w.alloc _).alloc _).heap.size; simp; omega))⟩

theorem bt (p a q b : Int) (h : p < q ∨ p = q ∧ a < b) : bef' p a q b = true := decide_eq_true h
theorem bf (p a q b : Int) (h : ¬ (p < q ∨ p = q ∧ a < b)) : bef' p a q b = false := decide_eq_false h
theorem ord_c (p0 p1 p2 i0 i1 i2 : Int) (w : World) :
    Calls Try.prog 3 #[.agg #[.int .i64 p0, .int .i64 p1, .int .i64 p2], .agg #[.int .i64 i0, .int .i64 i1, .int .i64 i2]] w fun e w' => e = .returned (.bool true) ∧ Below w.heap.size w w' := by
  by_cases hp : p0 = p1
  · have hS : (p0 == p1) = true := beq_iff_eq.mpr hp
    by_cases hi : i0 = i1
    · exact ord_t1 _ _ _ _ _ _ w hS (beq_iff_eq.mpr hi) (bf _ _ _ _ (by omega)) (bf _ _ _ _ (by omega))
    · have hT : (i0 == i1) = false := beq_eq_false_iff_ne.mpr hi
      by_cases hX : i0 < i1
      · by_cases hZ : p1 < p2 ∨ p1 = p2 ∧ i1 < i2
        · exact ord_yb _ _ _ _ _ _ w hS hT (bt _ _ _ _ (by omega)) (bf _ _ _ _ (by omega)) (bt _ _ _ _ hZ) (bt _ _ _ _ (by omega))
        · exact ord_xb _ _ _ _ _ _ w hS hT (bt _ _ _ _ (by omega)) (bf _ _ _ _ (by omega)) (bf _ _ _ _ hZ)
      · exact ord_zb _ _ _ _ _ _ w hS hT (bf _ _ _ _ (by omega)) (bt _ _ _ _ (by omega))
  · have hS : (p0 == p1) = false := beq_eq_false_iff_ne.mpr hp
    by_cases hX : p0 < p1
    · by_cases hZ : p1 < p2 ∨ p1 = p2 ∧ i1 < i2
      · exact ord_ya _ _ _ _ _ _ w hS (bt _ _ _ _ (by omega)) (bf _ _ _ _ (by omega)) (bt _ _ _ _ hZ) (bt _ _ _ _ (by omega))
      · exact ord_xa _ _ _ _ _ _ w hS (bt _ _ _ _ (by omega)) (bf _ _ _ _ (by omega)) (bf _ _ _ _ hZ)
    · exact ord_za _ _ _ _ _ _ w hS (bf _ _ _ _ (by omega)) (bt _ _ _ _ (by omega))
end Go.Proofs.Ytoldcfgedmjmfaa
