/- Contracts by hand: the processor's interface, through a pointer: what is written. -/
import Derived.Test.YtpjenhojldcmiaaCp4
import Derived.Test.YtpjenhojldcmiaaRef8b
namespace Go.Proofs.Ytpjenhojldcmiaa
open Go.RowKit Go.Shelf
attribute [local go_sem] Oper.semAt_some cell_row frozen_row isRow_setCell_eq rowAt_setCell_same rowAt_setCell_other isRow_alloc_eq rowAt_alloc rowAt_new isRow_setRow_eq rowAt_setRow_same rowAt_setRow_other isRow_drew rowAt_drew size_setRow_ Lb_size Lb_at blk_ptr aggOf_agg below_alloc_r below_setCell_r below_setRow_r below_drew_r le_add_r
def wOk (r : Int) : Bool := r == 6 || r == 7 || r == 8 || r == 9 || r == 10 || r == 11
def wM (r v m : Int) : Int := if r = 6 then realP (v % 256) else m
def wP0 (r v p : Int) : Int := if r = 7 then v % 8 else p
def wP1 (r v p : Int) : Int := if r = 8 then (if v % 8 = 0 then 1 else v % 8) else p
def wSp (r v : Int) (s : Bool) : Bool := if r = 9 then v / 2 % 2 == 1 else s
def wO0 (r v : Int) (s : Bool) : Bool := if r = 10 then v % 2 == 1 else s
def wO1 (r v : Int) (s : Bool) : Bool := if r = 11 then v % 2 == 1 else s
theorem and2_u (v : Int) : (bits .and .u64 v 2 == 2) = (v / 2 % 2 == 1) := by
  have h : bits .and .u64 v 2 = 2 * (v / 2 % 2) := by
    refine ext_u64 (bits_u64_in _ _ _) (by omega) fun k hk => ?_
    rw [tb_and_u _ _ _ hk]
    have h2 : tb 2 k = decide (k = 1) := rtb_pow 1 k
    rw [h2]
    by_cases e : k = 1
    · subst e
      unfold tb
      have : v / 2 % 2 = 0 ∨ v / 2 % 2 = 1 := by omega
      rcases this with h | h <;> simp [h]
    · have : v / 2 % 2 = 0 ∨ v / 2 % 2 = 1 := by omega
      rcases this with h | h
      · rw [h]; simp [e, tb]
      · rw [h]; rw [show (2 * 1 : Int) = 2 from rfl, h2]; simp [e]
  rw [h]
  have : v / 2 % 2 = 0 ∨ v / 2 % 2 = 1 := by omega
  rcases this with h | h <;> simp [h]
theorem and1_u (v : Int) : bits .and .u64 v 1 = v % 2 := by rw [show (1 : Int) = 2 ^ 1 - 1 from rfl, and_low_u _ 1 (by decide)]; rfl
theorem and7_u (v : Int) : bits .and .u64 v 7 = v % 8 := by rw [show (7 : Int) = 2 ^ 3 - 1 from rfl, and_low_u _ 3 (by decide)]; rfl
theorem and255_u (v : Int) : bits .and .u64 v 255 = v % 256 := by rw [show (255 : Int) = 2 ^ 8 - 1 from rfl, and_low_u _ 8 (by decide)]; rfl
theorem wok_no {r : Int} (h6 : ¬ r = 6) (h7 : ¬ r = 7) (h8 : ¬ r = 8) (h9 : ¬ r = 9) (h10 : ¬ r = 10) (h11 : ¬ r = 11) : wOk r = false := by unfold wOk; simp [h6, h7, h8, h9, h10, h11]
set_option maxRecDepth 100000 in
set_option maxHeartbeats 4000000 in
theorem Write_c (g : Nat) (m p0 p1 : Int) (o0 o1 sp : Bool) (a b : Int) (r v : Int) (w : World) (hr : isRow w g) (hr' : rowAt w g = #[.int .i64 m, .int .i64 p0, .int .i64 p1, .bool o0, .bool o1, .bool sp, .int .u32 a, .int .u32 b]) :
    Calls Try.prog 15 #[.pointer (some ⟨g, 0, none⟩), .int .i64 r, .int .u64 v] w fun e w' => e = .returned (.bool (wOk r)) ∧ Row w' g #[.int .i64 (wM r v m), .int .i64 (wP0 r v p0), .int .i64 (wP1 r v p1), .bool (wO0 r v o0), .bool (wO1 r v o1), .bool (wSp r v sp), .int .u32 a, .int .u32 b] ∧ Aside g w w' := by
  have A0 : Aside g w w := Aside.of_below (Below.refl _ w)
  by_cases h6 : r = 6
  · subst h6
    have h := and255_u v
    have hb0 : 0 ≤ v % 256 := by omega
    have hb1 : v % 256 ≤ 255 := by omega
    have HRL := Lib.hid (fun W : World => Real_c (v % 256) W)
    simp only [wM, wP0, wP1, wSp, wO0, wO1, if_true, show ¬ ((6 : Int) = 7) by decide, show ¬ ((6 : Int) = 8) by decide, show ¬ ((6 : Int) = 9) by decide, show ¬ ((6 : Int) = 10) by decide, show ¬ ((6 : Int) = 11) by decide, if_false]
    generalize realP (v % 256) = rl at *
    generalize v % 256 = vv at *
    go_enter Try.func15, Try.ntmps15
    go_wp2_with (go_at_call 37; refine (HRL.out _).mono ?_; rintro e w1 ⟨rfl, rfl⟩)
    go_ret
    first | exact ⟨rfl, ⟨by go_simp, by go_simp⟩, A0.setCell _⟩ | exact ⟨rfl, ⟨hr, hr'⟩, A0⟩
  by_cases h7 : r = 7
  · subst h7
    have h := and7_u v
    have hb0 : 0 ≤ v % 8 := by omega
    have hb1 : v % 8 ≤ 7 := by omega
    simp only [wM, wP0, wP1, wSp, wO0, wO1, if_true, show ¬ ((7 : Int) = 6) by decide, show ¬ ((7 : Int) = 8) by decide, show ¬ ((7 : Int) = 9) by decide, show ¬ ((7 : Int) = 10) by decide, show ¬ ((7 : Int) = 11) by decide, if_false]
    generalize v % 8 = vv at *
    go_enter Try.func15, Try.ntmps15
    go_wp2_with (go_at_call 37; refine (HRL.out _).mono ?_; rintro e w1 ⟨rfl, rfl⟩)
    go_ret
    first | exact ⟨rfl, ⟨by go_simp, by go_simp⟩, A0.setCell _⟩ | exact ⟨rfl, ⟨hr, hr'⟩, A0⟩
  by_cases h8 : r = 8
  · subst h8
    have h := and7_u v
    have hb0 : 0 ≤ v % 8 := by omega
    have hb1 : v % 8 ≤ 7 := by omega
    simp only [wM, wP0, wP1, wSp, wO0, wO1, if_true, show ¬ ((8 : Int) = 6) by decide, show ¬ ((8 : Int) = 7) by decide, show ¬ ((8 : Int) = 9) by decide, show ¬ ((8 : Int) = 10) by decide, show ¬ ((8 : Int) = 11) by decide, if_false]
    generalize v % 8 = vv at *
    by_cases hv0 : vv = 0
    · subst hv0
      rw [if_pos rfl]
      go_enter Try.func15, Try.ntmps15
      go_wp2_with (go_at_call 37; refine (HRL.out _).mono ?_; rintro e w1 ⟨rfl, rfl⟩)
      go_ret
      first | exact ⟨rfl, ⟨by go_simp, by go_simp⟩, A0.setCell _⟩ | exact ⟨rfl, ⟨hr, hr'⟩, A0⟩
    · rw [if_neg hv0]
      by_cases hv1 : vv = 1
      · subst hv1
        clear hv0
        go_enter Try.func15, Try.ntmps15
        go_wp2_with (go_at_call 37; refine (HRL.out _).mono ?_; rintro e w1 ⟨rfl, rfl⟩)
        go_ret
        first | exact ⟨rfl, ⟨by go_simp, by go_simp⟩, A0.setCell _⟩ | exact ⟨rfl, ⟨hr, hr'⟩, A0⟩
      · have hv2 : 1 < vv := by omega
        clear hv0 hv1
        go_enter Try.func15, Try.ntmps15
        go_wp2_with (go_at_call 37; refine (HRL.out _).mono ?_; rintro e w1 ⟨rfl, rfl⟩)
        go_ret
        first | exact ⟨rfl, ⟨by go_simp, by go_simp⟩, A0.setCell _⟩ | exact ⟨rfl, ⟨hr, hr'⟩, A0⟩
  by_cases h9 : r = 9
  · subst h9
    have h := and2_u v
    simp only [wM, wP0, wP1, wSp, wO0, wO1, if_true, show ¬ ((9 : Int) = 6) by decide, show ¬ ((9 : Int) = 7) by decide, show ¬ ((9 : Int) = 8) by decide, show ¬ ((9 : Int) = 10) by decide, show ¬ ((9 : Int) = 11) by decide, if_false]
    generalize (v / 2 % 2 == 1) = vv at *
    go_enter Try.func15, Try.ntmps15
    go_wp2_with (go_at_call 37; refine (HRL.out _).mono ?_; rintro e w1 ⟨rfl, rfl⟩)
    go_ret
    first | exact ⟨rfl, ⟨by go_simp, by go_simp⟩, A0.setCell _⟩ | exact ⟨rfl, ⟨hr, hr'⟩, A0⟩
  by_cases h10 : r = 10
  · subst h10
    have h := and1_u v
    simp only [wM, wP0, wP1, wSp, wO0, wO1, if_true, show ¬ ((10 : Int) = 6) by decide, show ¬ ((10 : Int) = 7) by decide, show ¬ ((10 : Int) = 8) by decide, show ¬ ((10 : Int) = 9) by decide, show ¬ ((10 : Int) = 11) by decide, if_false]
    generalize v % 2 = vv at *
    go_enter Try.func15, Try.ntmps15
    go_wp2_with (go_at_call 37; refine (HRL.out _).mono ?_; rintro e w1 ⟨rfl, rfl⟩)
    go_ret
    first | exact ⟨rfl, ⟨by go_simp, by go_simp⟩, A0.setCell _⟩ | exact ⟨rfl, ⟨hr, hr'⟩, A0⟩
  by_cases h11 : r = 11
  · subst h11
    have h := and1_u v
    simp only [wM, wP0, wP1, wSp, wO0, wO1, if_true, show ¬ ((11 : Int) = 6) by decide, show ¬ ((11 : Int) = 7) by decide, show ¬ ((11 : Int) = 8) by decide, show ¬ ((11 : Int) = 9) by decide, show ¬ ((11 : Int) = 10) by decide, if_false]
    generalize v % 2 = vv at *
    go_enter Try.func15, Try.ntmps15
    go_wp2_with (go_at_call 37; refine (HRL.out _).mono ?_; rintro e w1 ⟨rfl, rfl⟩)
    go_ret
    first | exact ⟨rfl, ⟨by go_simp, by go_simp⟩, A0.setCell _⟩ | exact ⟨rfl, ⟨hr, hr'⟩, A0⟩
  have e6 : (r == 6) = false := by simpa using h6
  have e7 : (r == 7) = false := by simpa using h7
  have e8 : (r == 8) = false := by simpa using h8
  have e9 : (r == 9) = false := by simpa using h9
  have e10 : (r == 10) = false := by simpa using h10
  have e11 : (r == 11) = false := by simpa using h11
  simp only [wM, wP0, wP1, wSp, wO0, wO1, if_neg h6, if_neg h7, if_neg h8, if_neg h9, if_neg h10, if_neg h11, wok_no h6 h7 h8 h9 h10 h11]
  clear h6 h7 h8 h9 h10 h11
  go_enter Try.func15, Try.ntmps15
  go_wp2_with (go_at_call 37; refine (HRL.out _).mono ?_; rintro e w1 ⟨rfl, rfl⟩)
  go_ret
  first | exact ⟨rfl, ⟨by go_simp, by go_simp⟩, A0.setCell _⟩ | exact ⟨rfl, ⟨hr, hr'⟩, A0⟩
end Go.Proofs.Ytpjenhojldcmiaa
