/- Texts of this claim, put together: IAllx10, IAllx11, LrP, H. -/
import Derived.Test.YtkbaghblchlcnaaD11
import Derived.Test.YtkbaghblchlcnaaD10
import Derived.Test.YtkbaghblchlcnaaD12
import Derived.Test.YtkbaghblchlcnaaD01
import Derived.Test.YtkbaghblchlcnaaD03
import Derived.Test.YtkbaghblchlcnaaProg
import Derived.Maps.AppendAt
import Derived.Outline
namespace Go.Proofs.Ytkbaghblchlcnaa.IAll
open Go.RowKit Go.Shelf Go.Proofs.Ytkbaghblchlcnaa Go.Proofs.YtkbaghblchlcnaaW.PrintWords Go.Proofs.YtkbaghblchlcnaaW.PrintLast Go.Proofs.YtkbaghblchlcnaaW.PrintMore
attribute [local go_sem] Oper.semAt_some cell_row frozen_row isRow_alloc_eq rowAt_alloc rowAt_new rowAt_new' isRow_drew rowAt_drew below_alloc_e below_refl_e below_drew_r isRow_drewN rowAt_drewN below_drewN_e le_add_r
def s1 (s g : Int) (h t : Bool) : Bool := decide (s < 0 ∨ 3 < s ∨ (g ≠ 0 ∧ g ≠ 1) ∨ (h = true ∧ t = true))
def p1B (p : Int) : Bool := decide (p < 0 ∨ 255 < p ∨ p % 8 ≠ 0)
def m1B (m : Int) (h : Bool) : Bool := decide (m < 0 ∨ 1023 < m ∨ (h = false ∧ m ≠ 0))
section
variable {s n p g : Int} {h : Bool} {m : Int} {t : Bool}
theorem ok_s (e : s1 s g h t = true) : decide (ok s n p g h m t) = false := by
  refine decide_eq_false fun q => ?_
  obtain ⟨⟨q1, q2, -, -, -, -, q7⟩, ⟨-, -, -, q8, -⟩, -, -⟩ := q
  rcases of_decide_eq_true e with e | e | e | ⟨e, e'⟩
  · omega
  · omega
  · omega
  · subst e e'; simp at q8
theorem ok_p (e : p1B p = true) : decide (ok s n p g h m t) = false := by
  refine decide_eq_false fun q => ?_
  obtain ⟨⟨-, -, -, -, q1, q2, -⟩, ⟨-, -, -, -, q3⟩, -, -⟩ := q
  rcases of_decide_eq_true e with e | e | e <;> omega
theorem ok_m (e : m1B m h = true) : decide (ok s n p g h m t) = false := by
  refine decide_eq_false fun q => ?_
  obtain ⟨-, ⟨q1, q2, q3, -, -⟩, -, -⟩ := q
  rcases of_decide_eq_true e with e | e | ⟨e, e'⟩
  · omega
  · omega
  · subst e; rcases q3 with q3 | q3
    · simp at q3
    · exact e' q3
theorem ok_rest (e1 : s1 s g h t = false) (e2 : p1B p = false) (e3 : m1B m h = false) (n : Int) : decide (ok s n p g h m t) = decide ((0 ≤ n ∧ n ≤ 1019) ∨ (8192 ≤ n ∧ n ≤ 16383 ∧ s ≤ 1 ∧ h = false)) := by
  have e1 := of_decide_eq_false e1
  have e2 := of_decide_eq_false e2
  have e3 := of_decide_eq_false e3
  unfold ok
  rw [Bool.eq_iff_iff]
  simp only [decide_eq_true_eq]
  cases h <;> cases t <;> simp at e1 e3 ⊢ <;> omega
end
set_option maxRecDepth 100000 in
set_option maxHeartbeats 4000000 in
theorem rmay_c (s n p g : Int) (h : Bool) (m : Int) (t : Bool) (w : World) : Calls Try.prog 37 #[.agg #[.int .i64 s, .int .i64 n, .int .i64 p, .int .i64 g, .bool h, .int .i64 m, .bool t]] w fun e w' => e = .returned (.bool (decide (ok s n p g h m t))) ∧ Below w.heap.size w w' := by
  obtain ⟨r, hr⟩ : ∃ r : Bool, r = decide (ok s n p g h m t) := ⟨_, rfl⟩
  rw [← hr]
  have HR := Lib.hid hr
  clear hr
  go_enter Try.func37, Try.ntmps37
  go_upto_region 1 with fail
  go_cut [28] (fun v wc => v = .bool (s1 s g h t) ∧ (isRow wc w.heap.size ∧ rowAt wc w.heap.size = #[.int .i64 s, .int .i64 n, .int .i64 p, .int .i64 g, .bool h, .int .i64 m, .bool t]) ∧ Below w.heap.size w wc)
  case first =>
    by_cases c1 : s < 0
    · go_wp2_with fail
      go_meet
      exact ⟨by rw [show s1 s g h t = true from decide_eq_true (by omega)], ⟨by go_simp, by go_simp⟩, by go_simp⟩
    by_cases c2 : 3 < s
    · go_wp2_with fail
      go_meet
      exact ⟨by rw [show s1 s g h t = true from decide_eq_true (by omega)], ⟨by go_simp, by go_simp⟩, by go_simp⟩
    have c3 : True := trivial
    clear c3
    by_cases c4 : g = 0
    · subst c4
      cases h with
      | false =>
        have hq : s1 s 0 false t = false := decide_eq_false (fun q => by rcases q with q | q | q | q <;> first | omega | (simp at q))
        go_wp2_with fail
        go_meet
        exact ⟨by rw [hq], ⟨by go_simp, by go_simp⟩, by go_simp⟩
      | true =>
        cases t with
        | false =>
          have hq : s1 s 0 true false = false := decide_eq_false (fun q => by rcases q with q | q | q | q <;> first | omega | (simp at q))
          go_wp2_with fail
          go_meet
          exact ⟨by rw [hq], ⟨by go_simp, by go_simp⟩, by go_simp⟩
        | true =>
          have hq : s1 s 0 true true = true := decide_eq_true (.inr (.inr (.inr ⟨rfl, rfl⟩)))
          go_wp2_with fail
          go_meet
          exact ⟨by rw [hq], ⟨by go_simp, by go_simp⟩, by go_simp⟩
    · have c4' : (g != 0) = true := by simpa using c4
      by_cases c5 : g = 1
      · subst c5
        cases h with
        | false =>
          have hq : s1 s 1 false t = false := decide_eq_false (fun q => by rcases q with q | q | q | q <;> first | omega | (simp at q))
          go_wp2_with fail
          go_meet
          exact ⟨by rw [hq], ⟨by go_simp, by go_simp⟩, by go_simp⟩
        | true =>
          cases t with
          | false =>
            have hq : s1 s 1 true false = false := decide_eq_false (fun q => by rcases q with q | q | q | q <;> first | omega | (simp at q))
            go_wp2_with fail
            go_meet
            exact ⟨by rw [hq], ⟨by go_simp, by go_simp⟩, by go_simp⟩
          | true =>
            have hq : s1 s 1 true true = true := decide_eq_true (.inr (.inr (.inr ⟨rfl, rfl⟩)))
            go_wp2_with fail
            go_meet
            exact ⟨by rw [hq], ⟨by go_simp, by go_simp⟩, by go_simp⟩
      · have c5' : (g != 1) = true := by simpa using c5
        go_wp2_with fail
        go_meet
        exact ⟨by rw [show s1 s g h t = true from decide_eq_true (by omega)], ⟨by go_simp, by go_simp⟩, by go_simp⟩
  case rest =>
    obtain ⟨rfl, ⟨R, R'⟩, hB⟩ := hcut
    by_cases hs : s1 s g h t = true
    · have hr : r = false := by rw [HR.out]; exact ok_s hs
      subst hr
      rw [hs]
      go_wp2
      go_ret
      exact ⟨rfl, by go_simp⟩
    have hs' : s1 s g h t = false := by simpa using hs
    rw [hs']
    go_upto_region 3 with fail
    go_cut [42] (fun v wc => v = .bool (p1B p) ∧ (isRow wc w.heap.size ∧ rowAt wc w.heap.size = #[.int .i64 s, .int .i64 n, .int .i64 p, .int .i64 g, .bool h, .int .i64 m, .bool t]) ∧ Below w.heap.size w wc)
    case first =>
      by_cases c1 : p < 0
      · go_wp2_with fail
        go_meet
        exact ⟨by rw [show p1B p = true from decide_eq_true (by omega)], ⟨by go_simp, by go_simp⟩, by go_simp⟩
      by_cases c2 : 255 < p
      · go_wp2_with fail
        go_meet
        exact ⟨by rw [show p1B p = true from decide_eq_true (by omega)], ⟨by go_simp, by go_simp⟩, by go_simp⟩
      have hm : Int.tmod p 8 = p % 8 := Int.tmod_eq_emod_of_nonneg (by omega)
      by_cases c3 : p % 8 = 0
      · have c3' : (Int.tmod p 8 != 0) = false := by rw [hm, c3]; rfl
        go_wp2_with fail
        go_meet
        exact ⟨by rw [show p1B p = false from decide_eq_false (by omega)], ⟨by go_simp, by go_simp⟩, by go_simp⟩
      · have c3' : (p % 8 != 0) = true := by simpa using c3
        go_wp2_with fail
        go_meet
        exact ⟨by rw [show p1B p = true from decide_eq_true (by omega)], ⟨by go_simp, by go_simp⟩, by go_simp⟩
    case rest =>
      clear R R' hB
      obtain ⟨rfl, ⟨R, R'⟩, hB⟩ := hcut
      by_cases hp : p1B p = true
      · have hr : r = false := by rw [HR.out]; exact ok_p hp
        subst hr
        rw [hp]
        go_wp2
        go_ret
        exact ⟨rfl, by go_simp⟩
      have hp' : p1B p = false := by simpa using hp
      rw [hp']
      go_upto_region 5 with fail
      go_cut [60] (fun v wc => v = .bool (m1B m h) ∧ (isRow wc w.heap.size ∧ rowAt wc w.heap.size = #[.int .i64 s, .int .i64 n, .int .i64 p, .int .i64 g, .bool h, .int .i64 m, .bool t]) ∧ Below w.heap.size w wc)
      case first =>
        by_cases c1 : m < 0
        · have hq : m1B m h = true := decide_eq_true (.inl c1)
          go_wp2_with fail
          go_meet
          exact ⟨by rw [hq], ⟨by go_simp, by go_simp⟩, by go_simp⟩
        by_cases c2 : 1023 < m
        · have hq : m1B m h = true := decide_eq_true (.inr (.inl c2))
          go_wp2_with fail
          go_meet
          exact ⟨by rw [hq], ⟨by go_simp, by go_simp⟩, by go_simp⟩
        cases h with
        | true =>
          have hq : m1B m true = false := decide_eq_false (fun q => by rcases q with q | q | q <;> first | omega | (simp at q))
          go_wp2_with fail
          go_meet
          exact ⟨by rw [hq], ⟨by go_simp, by go_simp⟩, by go_simp⟩
        | false =>
          by_cases c3 : m = 0
          · subst c3
            have hq : m1B 0 false = false := rfl
            go_wp2_with fail
            go_meet
            exact ⟨by rw [hq], ⟨by go_simp, by go_simp⟩, by go_simp⟩
          · have c3' : (m != 0) = true := by simpa using c3
            have hq : m1B m false = true := decide_eq_true (.inr (.inr ⟨rfl, c3⟩))
            go_wp2_with fail
            go_meet
            exact ⟨by rw [hq], ⟨by go_simp, by go_simp⟩, by go_simp⟩
      case rest =>
        clear R R' hB
        obtain ⟨rfl, ⟨R, R'⟩, hB⟩ := hcut
        by_cases hm : m1B m h = true
        · have hr : r = false := by rw [HR.out]; exact ok_m hm
          subst hr
          rw [hm]
          go_wp2
          go_ret
          exact ⟨rfl, by go_simp⟩
        have hm' : m1B m h = false := by simpa using hm
        rw [hm']
        have hk := ok_rest hs' hp' hm' n
        have HK := Lib.hid hk
        clear hk hs hs' hp hp' hm hm'
        by_cases c1 : 0 ≤ n
        rotate_left
        · have c2 : ¬ 8192 ≤ n := by omega
          have hr : r = false := by rw [HR.out, HK.out]; exact decide_eq_false (by omega)
          subst hr
          go_wp2
          go_ret
          exact ⟨rfl, by go_simp⟩
        by_cases c2 : n ≤ 1019
        · have hr : r = true := by rw [HR.out, HK.out]; exact decide_eq_true (by omega)
          subst hr
          go_wp2
          go_ret
          exact ⟨rfl, by go_simp⟩
        by_cases c3 : 8192 ≤ n
        rotate_left
        · have hr : r = false := by rw [HR.out, HK.out]; exact decide_eq_false (by omega)
          subst hr
          go_wp2
          go_ret
          exact ⟨rfl, by go_simp⟩
        by_cases c4 : n ≤ 16383
        rotate_left
        · have hr : r = false := by rw [HR.out, HK.out]; exact decide_eq_false (by omega)
          subst hr
          go_wp2
          go_ret
          exact ⟨rfl, by go_simp⟩
        by_cases c5 : s ≤ 1
        rotate_left
        · have hr : r = false := by rw [HR.out, HK.out]; exact decide_eq_false (by omega)
          subst hr
          go_wp2
          go_ret
          exact ⟨rfl, by go_simp⟩
        cases h with
        | false =>
          have hr : r = true := by rw [HR.out, HK.out]; exact decide_eq_true (.inr ⟨c3, c4, c5, rfl⟩)
          subst hr
          go_wp2
          go_ret
          exact ⟨rfl, by go_simp⟩
        | true =>
          have hr : r = false := by rw [HR.out, HK.out]; exact decide_eq_false (fun q => by rcases q with q | q <;> first | omega | (simp at q))
          subst hr
          go_wp2
          go_ret
          exact ⟨rfl, by go_simp⟩
def crierref20_May.f (_ : Nat) (s n p g : Int) (h : Bool) (m : Int) (t : Bool) : Option Bool := some (decide (ok s n p g h m t))
theorem crierref20_May.calls (k : Nat) (s n p g : Int) (h : Bool) (m : Int) (t : Bool) (r : Bool) (w : World) (e : crierref20_May.f k s n p g h m t = some r) :
    Calls Try.prog 37 #[.agg #[.int .i64 s, .int .i64 n, .int .i64 p, .int .i64 g, .bool h, .int .i64 m, .bool t]] w fun e w' => e = .returned (.bool r) ∧ Below w.heap.size w w' := by
  obtain rfl := Option.some.inj e
  exact rmay_c s n p g h m t w
end Go.Proofs.Ytkbaghblchlcnaa.IAll
-- Written by the program wip/gen/inj.py of this repository, out of the translation, for this claim. Not trusted: Lean checks it.
namespace Go.Proofs.Ytkbaghblchlcnaa.IAll
open Go.RowKit Go.Proofs.YtkbaghblchlcnaaW.PrintWords Go.Proofs.YtkbaghblchlcnaaW.PrintLast Go.Proofs.YtkbaghblchlcnaaW.PrintMore
attribute [local go_sem] max2_int min2_int max_two min_two max_three min_three max_four min_four   -- for this text's walks alone
set_option linter.unusedVariables false
set_option linter.unusedSimpArgs false
/-! ### crierref20_Right: function 15 -/
mutual
def crierref20_Right.l0 : Nat → List (S54) → Int → Option (Int)
  | 0, _, _ => none
  | k + 1, x0, x3 => if x3 < (x0.length : Int) then (if 0 ≤ x3 then ((crierref20_May.f k ((rd_T54 x0 x3).f0) ((rd_T54 x0 x3).f1) ((rd_T54 x0 x3).f2) ((rd_T54 x0 x3).f3) ((rd_T54 x0 x3).f4) ((rd_T54 x0 x3).f5) ((rd_T54 x0 x3).f6)).bind fun t140 => (if t140 = true then (crierref20_Right.l1 k x0 x3 0) else (some 200))) else (none)) else (some 0)
def crierref20_Right.l1 : Nat → List (S54) → Int → Int → Option (Int)
  | 0, _, _, _ => none
  | k + 1, x0, x3, x4 => if x4 < x3 then (if 0 ≤ x3 then (if x3 < (x0.length : Int) then (if ((rd_T54 x0 x3).f0) = 0 then (crierref20_Right.l1 k x0 x3 (wrap64 (x4 + 1))) else (if 0 ≤ x4 then (if x4 < (x0.length : Int) then (if ((rd_T54 x0 x4).f0) = 0 then (crierref20_Right.l1 k x0 x3 (wrap64 (x4 + 1))) else (if ((rd_T54 x0 x3).f1) = ((rd_T54 x0 x4).f1) then (some 200) else (crierref20_Right.l1 k x0 x3 (wrap64 (x4 + 1))))) else (none)) else (none))) else (none)) else (none)) else (crierref20_Right.l0 k x0 (wrap64 (x3 + 1)))
end
def crierref20_Right.f (k : Nat) (l0 : List (S54)) : Option (Int) := if (l0.length : Int) > 16 then (some 1) else (crierref20_Right.l0 k l0 0)
set_option maxHeartbeats 8000000 in
set_option maxRecDepth 100000 in
theorem crierref20_Right.calls (k : Nat) (A0 : Option Addr) (c0 : Nat) (l0 : List (S54)) (r : Int) (w : World) (hr0 : Kd.C k54 w A0 l0.length l0) (hc0 : l0.length ≤ c0) (h : crierref20_Right.f k l0 = some r) :
    Calls Try.prog 15 #[.slice A0 l0.length c0] w fun e w' => e = .returned (.int .i64 r) ∧ Below w.heap.size w w' := by
  have hu54 := Try.underlying54
  have HR0 := Aside0.mk hr0
  have HC0 := Aside0.mk hc0
  clear hr0 hc0
  have HB := Aside0.mk (Below.refl w.heap.size w)
  have H : (if (l0.length : Int) > 16 then (some 1) else (crierref20_Right.l0 k l0 0)) = some r := h
  clear h
  by_cases c2 : (l0.length : Int) > 16
  · rw [if_pos c2] at H
    have c2b0 : decide (16 < (l0.length : Int)) = true := decide_eq_true c2
    have c2b1 : decide (16 < l0.length) = true := decide_eq_true (by omega)
    clear c2
    obtain rfl := Option.some.inj H
    go_enter Try.func15, Try.ntmps15
    go_wp2
    repeat (go_quiet (fail); try go_wp2)
    go_ret
    exact ⟨by first | rfl | (simp [errW_none, errW_some] <;> rfl) | (simp [*, errW_none, errW_some] <;> rfl), by repeat (first | (with_reducible first | exact HB.out | apply below_alloc | apply pw_below_drewN | apply below_drew1) | exact HB.out)⟩
  · rw [if_neg c2] at H
    have c2b0 : decide (16 < (l0.length : Int)) = false := decide_eq_false c2
    have c2b1 : decide (16 < l0.length) = false := decide_eq_false (by omega)
    clear c2
    have H' := Aside0.mk H
    clear H
    go_enter Try.func15, Try.ntmps15
    go_wp2
    repeat (go_quiet (fail); try go_wp2)
    go_loopg [3] k (fun kq v3 w' => ∃ (x3_1 : Int), v3 = .int .i64 x3_1 ∧ Aside0 (crierref20_Right.l0 kq l0 x3_1 = some r) ∧ Aside0 (kq ≤ k) ∧ Aside0 (Below w.heap.size w w'))
    case atStart => exact ⟨(0), (by first | rfl | (simp; done) | (simp [*]; done) | (simp; exact (IntWalk.wrap64_in _ (by decide)).symm)), H', ⟨Nat.le_refl _⟩, ⟨by repeat (first | (with_reducible first | exact HB.out | apply below_alloc | apply pw_below_drewN | apply below_drew1) | exact HB.out)⟩⟩
    case round =>
      clear H'
      try clear c1
      try clear c2
      try clear c2b0
      try clear c2b1
      try clear p2
      obtain ⟨x3_1, rfl, HA, HK1, HB⟩ := hrel
      cases gk with
      | zero => exact absurd HA.out (by simp [crierref20_Right.l0])
      | succ k1 =>
        have H := HA.out
        clear HA
        simp only [crierref20_Right.l0] at H
        by_cases c3 : x3_1 < (l0.length : Int)
        · rw [if_pos c3] at H
          have c3b0 : decide (x3_1 < (l0.length : Int)) = true := decide_eq_true c3
          clear c3
          by_cases c4 : 0 ≤ x3_1
          · rw [if_pos c4] at H
            have c4b0 : decide (0 ≤ x3_1) = true := decide_eq_true c4
            clear c4
            replace H := Option.bind_eq_some_iff.mp H
            obtain ⟨t140, A50, H⟩ := H
            replace H : (if t140 = true then (crierref20_Right.l1 k1 l0 x3_1 0) else (some 200)) = some r := H
            have A5 := Aside0.mk A50
            clear A50
            by_cases c6 : t140 = true
            · subst c6
              have H1 : (crierref20_Right.l1 k1 l0 x3_1 0) = some r := by first | (rw [if_pos rfl] at H; exact H) | (rw [if_pos trivial] at H; exact H)
              clear H
              have H := H1
              clear H1
              have H' := Aside0.mk H
              clear H
              have p139 : 0 ≤ (x3_1 : Int) := of_decide_eq_true (by first | (with_reducible assumption) | assumption)
              have q139 : x3_1 < (l0.length : Int) := of_decide_eq_true (by first | (with_reducible assumption) | assumption)
              obtain ⟨ad139, e139, hx139_0, hx139_1, hx139_2, hx139_3, hx139_4, hx139_5, hx139_6⟩ := at_T54 HR0.out x3_1 p139 q139
              cases e139
              replace hx139_0 := (HB.out.cell (World.block_lt_of_cell? w _ hx139_0)).trans hx139_0
              replace hx139_1 := (HB.out.cell (World.block_lt_of_cell? w _ hx139_1)).trans hx139_1
              replace hx139_2 := (HB.out.cell (World.block_lt_of_cell? w _ hx139_2)).trans hx139_2
              replace hx139_3 := (HB.out.cell (World.block_lt_of_cell? w _ hx139_3)).trans hx139_3
              replace hx139_4 := (HB.out.cell (World.block_lt_of_cell? w _ hx139_4)).trans hx139_4
              replace hx139_5 := (HB.out.cell (World.block_lt_of_cell? w _ hx139_5)).trans hx139_5
              replace hx139_6 := (HB.out.cell (World.block_lt_of_cell? w _ hx139_6)).trans hx139_6
              replace p139 := eq_true p139
              replace q139 := eq_true q139
              go_wp2_with (first | (go_at_call 37; (with_reducible refine (crierref20_May.calls k1 ((rd_T54 l0 x3_1).f0) ((rd_T54 l0 x3_1).f1) ((rd_T54 l0 x3_1).f2) ((rd_T54 l0 x3_1).f3) ((rd_T54 l0 x3_1).f4) ((rd_T54 l0 x3_1).f5) ((rd_T54 l0 x3_1).f6) true _ A5.out).mono ?_); rintro e w7 ⟨rfl, hb⟩; have n0_ := Aside0.mk (below_step (by repeat (first | (with_reducible first | exact HB.out | apply below_alloc | apply pw_below_drewN | apply below_drew1) | exact HB.out)) hb); clear HB; have HB := n0_; clear n0_; (try clear hb); (try clear hb2); (try clear hk); (try clear hi)))
              repeat (go_quiet (first | (go_at_call 37; (with_reducible refine (crierref20_May.calls k1 ((rd_T54 l0 x3_1).f0) ((rd_T54 l0 x3_1).f1) ((rd_T54 l0 x3_1).f2) ((rd_T54 l0 x3_1).f3) ((rd_T54 l0 x3_1).f4) ((rd_T54 l0 x3_1).f5) ((rd_T54 l0 x3_1).f6) true _ A5.out).mono ?_); rintro e w7 ⟨rfl, hb⟩; have n0_ := Aside0.mk (below_step (by repeat (first | (with_reducible first | exact HB.out | apply below_alloc | apply pw_below_drewN | apply below_drew1) | exact HB.out)) hb); clear HB; have HB := n0_; clear n0_; (try clear hb); (try clear hb2); (try clear hk); (try clear hi))); try go_wp2_with (first | (go_at_call 37; (with_reducible refine (crierref20_May.calls k1 ((rd_T54 l0 x3_1).f0) ((rd_T54 l0 x3_1).f1) ((rd_T54 l0 x3_1).f2) ((rd_T54 l0 x3_1).f3) ((rd_T54 l0 x3_1).f4) ((rd_T54 l0 x3_1).f5) ((rd_T54 l0 x3_1).f6) true _ A5.out).mono ?_); rintro e w7 ⟨rfl, hb⟩; have n0_ := Aside0.mk (below_step (by repeat (first | (with_reducible first | exact HB.out | apply below_alloc | apply pw_below_drewN | apply below_drew1) | exact HB.out)) hb); clear HB; have HB := n0_; clear n0_; (try clear hb); (try clear hb2); (try clear hk); (try clear hi))))
              go_loopg [4] k1 (fun kq v4 w' => ∃ (x4_2 : Int), v4 = .int .i64 x4_2 ∧ Aside0 (crierref20_Right.l1 kq l0 x3_1 x4_2 = some r) ∧ Aside0 (kq ≤ k1) ∧ Aside0 (Below w.heap.size w w'))
              case atStart => exact ⟨(0), (by first | rfl | (simp; done) | (simp [*]; done) | (simp; exact (IntWalk.wrap64_in _ (by decide)).symm)), H', ⟨Nat.le_refl _⟩, ⟨by repeat (first | (with_reducible first | exact HB.out | apply below_alloc | apply pw_below_drewN | apply below_drew1) | exact HB.out)⟩⟩
              case round =>
                clear H'
                try clear c1
                try clear p1
                try clear q1
                try clear hx1
                try clear c2
                try clear c2b0
                try clear c2b1
                try clear p2
                try clear c3
                try clear c3b0
                try clear c4
                try clear c4b0
                try clear c6
                try clear hx139_0
                try clear hx139_1
                try clear hx139_2
                try clear hx139_3
                try clear hx139_4
                try clear hx139_5
                try clear hx139_6
                try clear p139
                try clear p2
                try clear q139
                obtain ⟨x4_2, rfl, HA, HK2, HB⟩ := hrel
                cases gk with
                | zero => exact absurd HA.out (by simp [crierref20_Right.l1])
                | succ k2 =>
                  have H := HA.out
                  clear HA
                  simp only [crierref20_Right.l1] at H
                  by_cases c8 : x4_2 < x3_1
                  · rw [if_pos c8] at H
                    have c8b0 : decide (x4_2 < x3_1) = true := decide_eq_true c8
                    clear c8
                    by_cases c9 : 0 ≤ x3_1
                    · rw [if_pos c9] at H
                      have c9b0 : decide (0 ≤ x3_1) = true := decide_eq_true c9
                      clear c9
                      by_cases c10 : x3_1 < (l0.length : Int)
                      · rw [if_pos c10] at H
                        have c10b0 : decide (x3_1 < (l0.length : Int)) = true := decide_eq_true c10
                        clear c10
                        by_cases c11 : ((rd_T54 l0 x3_1).f0) = 0
                        · rw [if_pos c11] at H
                          have c11b0 : (((rd_T54 l0 x3_1).f0) == 0) = true := beq_iff_eq.mpr c11
                          have c11b1 : (((rd_T54 l0 x3_1).f0) != 0) = false := bne_eq_false_iff_eq.mpr c11
                          clear c11
                          have H' := Aside0.mk H
                          clear H
                          have p141 : 0 ≤ (x3_1 : Int) := of_decide_eq_true (by first | (with_reducible assumption) | assumption)
                          have q141 : x3_1 < (l0.length : Int) := of_decide_eq_true (by first | (with_reducible assumption) | assumption)
                          obtain ⟨ad141, e141, hx141_0, hx141_1, hx141_2, hx141_3, hx141_4, hx141_5, hx141_6⟩ := at_T54 HR0.out x3_1 p141 q141
                          obtain rfl : ad139 = ad141 := (by injection e141)
                          replace hx141_0 := (HB.out.cell (World.block_lt_of_cell? w _ hx141_0)).trans hx141_0
                          replace hx141_1 := (HB.out.cell (World.block_lt_of_cell? w _ hx141_1)).trans hx141_1
                          replace hx141_2 := (HB.out.cell (World.block_lt_of_cell? w _ hx141_2)).trans hx141_2
                          replace hx141_3 := (HB.out.cell (World.block_lt_of_cell? w _ hx141_3)).trans hx141_3
                          replace hx141_4 := (HB.out.cell (World.block_lt_of_cell? w _ hx141_4)).trans hx141_4
                          replace hx141_5 := (HB.out.cell (World.block_lt_of_cell? w _ hx141_5)).trans hx141_5
                          replace hx141_6 := (HB.out.cell (World.block_lt_of_cell? w _ hx141_6)).trans hx141_6
                          replace p141 := eq_true p141
                          replace q141 := eq_true q141
                          go_wp2
                          repeat (go_quiet (fail); try go_wp2)
                          go_roundg k2
                          case measure => have := HK1.out; have := HK2.out; omega
                          case rel => exact ⟨(wrap64 (x4_2 + 1)), (by first | rfl | (simp; done) | (simp [*]; done) | (simp; exact (IntWalk.wrap64_in _ (by decide)).symm)), H', ⟨by have := HK1.out; have := HK2.out; omega⟩, ⟨by repeat (first | (with_reducible first | exact HB.out | apply below_alloc | apply pw_below_drewN | apply below_drew1) | exact HB.out)⟩⟩
                        · rw [if_neg c11] at H
                          have c11b0 : (((rd_T54 l0 x3_1).f0) == 0) = false := beq_eq_false_iff_ne.mpr c11
                          have c11b1 : (((rd_T54 l0 x3_1).f0) != 0) = true := bne_iff_ne.mpr c11
                          by_cases c12 : 0 ≤ x4_2
                          · rw [if_pos c12] at H
                            have c12b0 : decide (0 ≤ x4_2) = true := decide_eq_true c12
                            clear c12
                            by_cases c13 : x4_2 < (l0.length : Int)
                            · rw [if_pos c13] at H
                              have c13b0 : decide (x4_2 < (l0.length : Int)) = true := decide_eq_true c13
                              clear c13
                              by_cases c14 : ((rd_T54 l0 x4_2).f0) = 0
                              · rw [if_pos c14] at H
                                have c14b0 : (((rd_T54 l0 x4_2).f0) == 0) = true := beq_iff_eq.mpr c14
                                have c14b1 : (((rd_T54 l0 x4_2).f0) != 0) = false := bne_eq_false_iff_eq.mpr c14
                                clear c14
                                have H' := Aside0.mk H
                                clear H
                                have p141 : 0 ≤ (x3_1 : Int) := of_decide_eq_true (by first | (with_reducible assumption) | assumption)
                                have q141 : x3_1 < (l0.length : Int) := of_decide_eq_true (by first | (with_reducible assumption) | assumption)
                                obtain ⟨ad141, e141, hx141_0, hx141_1, hx141_2, hx141_3, hx141_4, hx141_5, hx141_6⟩ := at_T54 HR0.out x3_1 p141 q141
                                obtain rfl : ad139 = ad141 := (by injection e141)
                                replace hx141_0 := (HB.out.cell (World.block_lt_of_cell? w _ hx141_0)).trans hx141_0
                                replace hx141_1 := (HB.out.cell (World.block_lt_of_cell? w _ hx141_1)).trans hx141_1
                                replace hx141_2 := (HB.out.cell (World.block_lt_of_cell? w _ hx141_2)).trans hx141_2
                                replace hx141_3 := (HB.out.cell (World.block_lt_of_cell? w _ hx141_3)).trans hx141_3
                                replace hx141_4 := (HB.out.cell (World.block_lt_of_cell? w _ hx141_4)).trans hx141_4
                                replace hx141_5 := (HB.out.cell (World.block_lt_of_cell? w _ hx141_5)).trans hx141_5
                                replace hx141_6 := (HB.out.cell (World.block_lt_of_cell? w _ hx141_6)).trans hx141_6
                                replace p141 := eq_true p141
                                replace q141 := eq_true q141
                                have p142 : 0 ≤ (x4_2 : Int) := of_decide_eq_true (by first | (with_reducible assumption) | assumption)
                                have q142 : x4_2 < (l0.length : Int) := of_decide_eq_true (by first | (with_reducible assumption) | assumption)
                                obtain ⟨ad142, e142, hx142_0, hx142_1, hx142_2, hx142_3, hx142_4, hx142_5, hx142_6⟩ := at_T54 HR0.out x4_2 p142 q142
                                obtain rfl : ad139 = ad142 := (by injection e142)
                                replace hx142_0 := (HB.out.cell (World.block_lt_of_cell? w _ hx142_0)).trans hx142_0
                                replace hx142_1 := (HB.out.cell (World.block_lt_of_cell? w _ hx142_1)).trans hx142_1
                                replace hx142_2 := (HB.out.cell (World.block_lt_of_cell? w _ hx142_2)).trans hx142_2
                                replace hx142_3 := (HB.out.cell (World.block_lt_of_cell? w _ hx142_3)).trans hx142_3
                                replace hx142_4 := (HB.out.cell (World.block_lt_of_cell? w _ hx142_4)).trans hx142_4
                                replace hx142_5 := (HB.out.cell (World.block_lt_of_cell? w _ hx142_5)).trans hx142_5
                                replace hx142_6 := (HB.out.cell (World.block_lt_of_cell? w _ hx142_6)).trans hx142_6
                                replace p142 := eq_true p142
                                replace q142 := eq_true q142
                                go_wp2
                                repeat (go_quiet (fail); try go_wp2)
                                go_roundg k2
                                case measure => have := HK1.out; have := HK2.out; omega
                                case rel => exact ⟨(wrap64 (x4_2 + 1)), (by first | rfl | (simp; done) | (simp [*]; done) | (simp; exact (IntWalk.wrap64_in _ (by decide)).symm)), H', ⟨by have := HK1.out; have := HK2.out; omega⟩, ⟨by repeat (first | (with_reducible first | exact HB.out | apply below_alloc | apply pw_below_drewN | apply below_drew1) | exact HB.out)⟩⟩
                              · rw [if_neg c14] at H
                                have c14b0 : (((rd_T54 l0 x4_2).f0) == 0) = false := beq_eq_false_iff_ne.mpr c14
                                have c14b1 : (((rd_T54 l0 x4_2).f0) != 0) = true := bne_iff_ne.mpr c14
                                by_cases c15 : ((rd_T54 l0 x3_1).f1) = ((rd_T54 l0 x4_2).f1)
                                · rw [if_pos c15] at H
                                  have c15b0 : (((rd_T54 l0 x3_1).f1) == ((rd_T54 l0 x4_2).f1)) = true := beq_iff_eq.mpr c15
                                  have c15b1 : (((rd_T54 l0 x3_1).f1) != ((rd_T54 l0 x4_2).f1)) = false := bne_eq_false_iff_eq.mpr c15
                                  clear c15
                                  obtain rfl := Option.some.inj H
                                  have p141 : 0 ≤ (x3_1 : Int) := of_decide_eq_true (by first | (with_reducible assumption) | assumption)
                                  have q141 : x3_1 < (l0.length : Int) := of_decide_eq_true (by first | (with_reducible assumption) | assumption)
                                  obtain ⟨ad141, e141, hx141_0, hx141_1, hx141_2, hx141_3, hx141_4, hx141_5, hx141_6⟩ := at_T54 HR0.out x3_1 p141 q141
                                  obtain rfl : ad139 = ad141 := (by injection e141)
                                  replace hx141_0 := (HB.out.cell (World.block_lt_of_cell? w _ hx141_0)).trans hx141_0
                                  replace hx141_1 := (HB.out.cell (World.block_lt_of_cell? w _ hx141_1)).trans hx141_1
                                  replace hx141_2 := (HB.out.cell (World.block_lt_of_cell? w _ hx141_2)).trans hx141_2
                                  replace hx141_3 := (HB.out.cell (World.block_lt_of_cell? w _ hx141_3)).trans hx141_3
                                  replace hx141_4 := (HB.out.cell (World.block_lt_of_cell? w _ hx141_4)).trans hx141_4
                                  replace hx141_5 := (HB.out.cell (World.block_lt_of_cell? w _ hx141_5)).trans hx141_5
                                  replace hx141_6 := (HB.out.cell (World.block_lt_of_cell? w _ hx141_6)).trans hx141_6
                                  replace p141 := eq_true p141
                                  replace q141 := eq_true q141
                                  have p142 : 0 ≤ (x4_2 : Int) := of_decide_eq_true (by first | (with_reducible assumption) | assumption)
                                  have q142 : x4_2 < (l0.length : Int) := of_decide_eq_true (by first | (with_reducible assumption) | assumption)
                                  obtain ⟨ad142, e142, hx142_0, hx142_1, hx142_2, hx142_3, hx142_4, hx142_5, hx142_6⟩ := at_T54 HR0.out x4_2 p142 q142
                                  obtain rfl : ad139 = ad142 := (by injection e142)
                                  replace hx142_0 := (HB.out.cell (World.block_lt_of_cell? w _ hx142_0)).trans hx142_0
                                  replace hx142_1 := (HB.out.cell (World.block_lt_of_cell? w _ hx142_1)).trans hx142_1
                                  replace hx142_2 := (HB.out.cell (World.block_lt_of_cell? w _ hx142_2)).trans hx142_2
                                  replace hx142_3 := (HB.out.cell (World.block_lt_of_cell? w _ hx142_3)).trans hx142_3
                                  replace hx142_4 := (HB.out.cell (World.block_lt_of_cell? w _ hx142_4)).trans hx142_4
                                  replace hx142_5 := (HB.out.cell (World.block_lt_of_cell? w _ hx142_5)).trans hx142_5
                                  replace hx142_6 := (HB.out.cell (World.block_lt_of_cell? w _ hx142_6)).trans hx142_6
                                  replace p142 := eq_true p142
                                  replace q142 := eq_true q142
                                  have p143 : 0 ≤ (x3_1 : Int) := of_decide_eq_true (by first | (with_reducible assumption) | assumption)
                                  have q143 : x3_1 < (l0.length : Int) := of_decide_eq_true (by first | (with_reducible assumption) | assumption)
                                  obtain ⟨ad143, e143, hx143_0, hx143_1, hx143_2, hx143_3, hx143_4, hx143_5, hx143_6⟩ := at_T54 HR0.out x3_1 p143 q143
                                  obtain rfl : ad139 = ad143 := (by injection e143)
                                  replace hx143_0 := (HB.out.cell (World.block_lt_of_cell? w _ hx143_0)).trans hx143_0
                                  replace hx143_1 := (HB.out.cell (World.block_lt_of_cell? w _ hx143_1)).trans hx143_1
                                  replace hx143_2 := (HB.out.cell (World.block_lt_of_cell? w _ hx143_2)).trans hx143_2
                                  replace hx143_3 := (HB.out.cell (World.block_lt_of_cell? w _ hx143_3)).trans hx143_3
                                  replace hx143_4 := (HB.out.cell (World.block_lt_of_cell? w _ hx143_4)).trans hx143_4
                                  replace hx143_5 := (HB.out.cell (World.block_lt_of_cell? w _ hx143_5)).trans hx143_5
                                  replace hx143_6 := (HB.out.cell (World.block_lt_of_cell? w _ hx143_6)).trans hx143_6
                                  replace p143 := eq_true p143
                                  replace q143 := eq_true q143
                                  have p144 : 0 ≤ (x4_2 : Int) := of_decide_eq_true (by first | (with_reducible assumption) | assumption)
                                  have q144 : x4_2 < (l0.length : Int) := of_decide_eq_true (by first | (with_reducible assumption) | assumption)
                                  obtain ⟨ad144, e144, hx144_0, hx144_1, hx144_2, hx144_3, hx144_4, hx144_5, hx144_6⟩ := at_T54 HR0.out x4_2 p144 q144
                                  obtain rfl : ad139 = ad144 := (by injection e144)
                                  replace hx144_0 := (HB.out.cell (World.block_lt_of_cell? w _ hx144_0)).trans hx144_0
                                  replace hx144_1 := (HB.out.cell (World.block_lt_of_cell? w _ hx144_1)).trans hx144_1
                                  replace hx144_2 := (HB.out.cell (World.block_lt_of_cell? w _ hx144_2)).trans hx144_2
                                  replace hx144_3 := (HB.out.cell (World.block_lt_of_cell? w _ hx144_3)).trans hx144_3
                                  replace hx144_4 := (HB.out.cell (World.block_lt_of_cell? w _ hx144_4)).trans hx144_4
                                  replace hx144_5 := (HB.out.cell (World.block_lt_of_cell? w _ hx144_5)).trans hx144_5
                                  replace hx144_6 := (HB.out.cell (World.block_lt_of_cell? w _ hx144_6)).trans hx144_6
                                  replace p144 := eq_true p144
                                  replace q144 := eq_true q144
                                  go_wp2
                                  repeat (go_quiet (fail); try go_wp2)
                                  go_ret
                                  exact ⟨by first | rfl | (simp [errW_none, errW_some] <;> rfl) | (simp [*, errW_none, errW_some] <;> rfl), by repeat (first | (with_reducible first | exact HB.out | apply below_alloc | apply pw_below_drewN | apply below_drew1) | exact HB.out)⟩
                                · rw [if_neg c15] at H
                                  have c15b0 : (((rd_T54 l0 x3_1).f1) == ((rd_T54 l0 x4_2).f1)) = false := beq_eq_false_iff_ne.mpr c15
                                  have c15b1 : (((rd_T54 l0 x3_1).f1) != ((rd_T54 l0 x4_2).f1)) = true := bne_iff_ne.mpr c15
                                  have H' := Aside0.mk H
                                  clear H
                                  have p141 : 0 ≤ (x3_1 : Int) := of_decide_eq_true (by first | (with_reducible assumption) | assumption)
                                  have q141 : x3_1 < (l0.length : Int) := of_decide_eq_true (by first | (with_reducible assumption) | assumption)
                                  obtain ⟨ad141, e141, hx141_0, hx141_1, hx141_2, hx141_3, hx141_4, hx141_5, hx141_6⟩ := at_T54 HR0.out x3_1 p141 q141
                                  obtain rfl : ad139 = ad141 := (by injection e141)
                                  replace hx141_0 := (HB.out.cell (World.block_lt_of_cell? w _ hx141_0)).trans hx141_0
                                  replace hx141_1 := (HB.out.cell (World.block_lt_of_cell? w _ hx141_1)).trans hx141_1
                                  replace hx141_2 := (HB.out.cell (World.block_lt_of_cell? w _ hx141_2)).trans hx141_2
                                  replace hx141_3 := (HB.out.cell (World.block_lt_of_cell? w _ hx141_3)).trans hx141_3
                                  replace hx141_4 := (HB.out.cell (World.block_lt_of_cell? w _ hx141_4)).trans hx141_4
                                  replace hx141_5 := (HB.out.cell (World.block_lt_of_cell? w _ hx141_5)).trans hx141_5
                                  replace hx141_6 := (HB.out.cell (World.block_lt_of_cell? w _ hx141_6)).trans hx141_6
                                  replace p141 := eq_true p141
                                  replace q141 := eq_true q141
                                  have p142 : 0 ≤ (x4_2 : Int) := of_decide_eq_true (by first | (with_reducible assumption) | assumption)
                                  have q142 : x4_2 < (l0.length : Int) := of_decide_eq_true (by first | (with_reducible assumption) | assumption)
                                  obtain ⟨ad142, e142, hx142_0, hx142_1, hx142_2, hx142_3, hx142_4, hx142_5, hx142_6⟩ := at_T54 HR0.out x4_2 p142 q142
                                  obtain rfl : ad139 = ad142 := (by injection e142)
                                  replace hx142_0 := (HB.out.cell (World.block_lt_of_cell? w _ hx142_0)).trans hx142_0
                                  replace hx142_1 := (HB.out.cell (World.block_lt_of_cell? w _ hx142_1)).trans hx142_1
                                  replace hx142_2 := (HB.out.cell (World.block_lt_of_cell? w _ hx142_2)).trans hx142_2
                                  replace hx142_3 := (HB.out.cell (World.block_lt_of_cell? w _ hx142_3)).trans hx142_3
                                  replace hx142_4 := (HB.out.cell (World.block_lt_of_cell? w _ hx142_4)).trans hx142_4
                                  replace hx142_5 := (HB.out.cell (World.block_lt_of_cell? w _ hx142_5)).trans hx142_5
                                  replace hx142_6 := (HB.out.cell (World.block_lt_of_cell? w _ hx142_6)).trans hx142_6
                                  replace p142 := eq_true p142
                                  replace q142 := eq_true q142
                                  have p143 : 0 ≤ (x3_1 : Int) := of_decide_eq_true (by first | (with_reducible assumption) | assumption)
                                  have q143 : x3_1 < (l0.length : Int) := of_decide_eq_true (by first | (with_reducible assumption) | assumption)
                                  obtain ⟨ad143, e143, hx143_0, hx143_1, hx143_2, hx143_3, hx143_4, hx143_5, hx143_6⟩ := at_T54 HR0.out x3_1 p143 q143
                                  obtain rfl : ad139 = ad143 := (by injection e143)
                                  replace hx143_0 := (HB.out.cell (World.block_lt_of_cell? w _ hx143_0)).trans hx143_0
                                  replace hx143_1 := (HB.out.cell (World.block_lt_of_cell? w _ hx143_1)).trans hx143_1
                                  replace hx143_2 := (HB.out.cell (World.block_lt_of_cell? w _ hx143_2)).trans hx143_2
                                  replace hx143_3 := (HB.out.cell (World.block_lt_of_cell? w _ hx143_3)).trans hx143_3
                                  replace hx143_4 := (HB.out.cell (World.block_lt_of_cell? w _ hx143_4)).trans hx143_4
                                  replace hx143_5 := (HB.out.cell (World.block_lt_of_cell? w _ hx143_5)).trans hx143_5
                                  replace hx143_6 := (HB.out.cell (World.block_lt_of_cell? w _ hx143_6)).trans hx143_6
                                  replace p143 := eq_true p143
                                  replace q143 := eq_true q143
                                  have p144 : 0 ≤ (x4_2 : Int) := of_decide_eq_true (by first | (with_reducible assumption) | assumption)
                                  have q144 : x4_2 < (l0.length : Int) := of_decide_eq_true (by first | (with_reducible assumption) | assumption)
                                  obtain ⟨ad144, e144, hx144_0, hx144_1, hx144_2, hx144_3, hx144_4, hx144_5, hx144_6⟩ := at_T54 HR0.out x4_2 p144 q144
                                  obtain rfl : ad139 = ad144 := (by injection e144)
                                  replace hx144_0 := (HB.out.cell (World.block_lt_of_cell? w _ hx144_0)).trans hx144_0
                                  replace hx144_1 := (HB.out.cell (World.block_lt_of_cell? w _ hx144_1)).trans hx144_1
                                  replace hx144_2 := (HB.out.cell (World.block_lt_of_cell? w _ hx144_2)).trans hx144_2
                                  replace hx144_3 := (HB.out.cell (World.block_lt_of_cell? w _ hx144_3)).trans hx144_3
                                  replace hx144_4 := (HB.out.cell (World.block_lt_of_cell? w _ hx144_4)).trans hx144_4
                                  replace hx144_5 := (HB.out.cell (World.block_lt_of_cell? w _ hx144_5)).trans hx144_5
                                  replace hx144_6 := (HB.out.cell (World.block_lt_of_cell? w _ hx144_6)).trans hx144_6
                                  replace p144 := eq_true p144
                                  replace q144 := eq_true q144
                                  go_wp2
                                  repeat (go_quiet (fail); try go_wp2)
                                  go_roundg k2
                                  case measure => have := HK1.out; have := HK2.out; omega
                                  case rel => exact ⟨(wrap64 (x4_2 + 1)), (by first | rfl | (simp; done) | (simp [*]; done) | (simp; exact (IntWalk.wrap64_in _ (by decide)).symm)), H', ⟨by have := HK1.out; have := HK2.out; omega⟩, ⟨by repeat (first | (with_reducible first | exact HB.out | apply below_alloc | apply pw_below_drewN | apply below_drew1) | exact HB.out)⟩⟩
                            · rw [if_neg c13] at H
                              exact absurd H (by simp)
                          · rw [if_neg c12] at H
                            exact absurd H (by simp)
                      · rw [if_neg c10] at H
                        exact absurd H (by simp)
                    · rw [if_neg c9] at H
                      exact absurd H (by simp)
                  · rw [if_neg c8] at H
                    have c8b0 : decide (x4_2 < x3_1) = false := decide_eq_false c8
                    clear c8
                    have H' := Aside0.mk H
                    clear H
                    go_wp2
                    repeat (go_quiet (fail); try go_wp2)
                    go_roundg k2
                    case measure => have := HK1.out; have := HK2.out; omega
                    case rel => exact ⟨(wrap64 (x3_1 + 1)), (by first | rfl | (simp; done) | (simp [*]; done) | (simp; exact (IntWalk.wrap64_in _ (by decide)).symm)), H', ⟨by have := HK1.out; have := HK2.out; omega⟩, ⟨by repeat (first | (with_reducible first | exact HB.out | apply below_alloc | apply pw_below_drewN | apply below_drew1) | exact HB.out)⟩⟩
            · replace c6 := Bool.eq_false_iff.mpr c6
              subst c6
              have H1 : (some 200) = some r := by rw [if_neg (show ¬ (false = true) by decide)] at H; exact H
              clear H
              have H := H1
              clear H1
              obtain rfl := Option.some.inj H
              have p139 : 0 ≤ (x3_1 : Int) := of_decide_eq_true (by first | (with_reducible assumption) | assumption)
              have q139 : x3_1 < (l0.length : Int) := of_decide_eq_true (by first | (with_reducible assumption) | assumption)
              obtain ⟨ad139, e139, hx139_0, hx139_1, hx139_2, hx139_3, hx139_4, hx139_5, hx139_6⟩ := at_T54 HR0.out x3_1 p139 q139
              cases e139
              replace hx139_0 := (HB.out.cell (World.block_lt_of_cell? w _ hx139_0)).trans hx139_0
              replace hx139_1 := (HB.out.cell (World.block_lt_of_cell? w _ hx139_1)).trans hx139_1
              replace hx139_2 := (HB.out.cell (World.block_lt_of_cell? w _ hx139_2)).trans hx139_2
              replace hx139_3 := (HB.out.cell (World.block_lt_of_cell? w _ hx139_3)).trans hx139_3
              replace hx139_4 := (HB.out.cell (World.block_lt_of_cell? w _ hx139_4)).trans hx139_4
              replace hx139_5 := (HB.out.cell (World.block_lt_of_cell? w _ hx139_5)).trans hx139_5
              replace hx139_6 := (HB.out.cell (World.block_lt_of_cell? w _ hx139_6)).trans hx139_6
              replace p139 := eq_true p139
              replace q139 := eq_true q139
              go_wp2_with (first | (go_at_call 37; (with_reducible refine (crierref20_May.calls k1 ((rd_T54 l0 x3_1).f0) ((rd_T54 l0 x3_1).f1) ((rd_T54 l0 x3_1).f2) ((rd_T54 l0 x3_1).f3) ((rd_T54 l0 x3_1).f4) ((rd_T54 l0 x3_1).f5) ((rd_T54 l0 x3_1).f6) false _ A5.out).mono ?_); rintro e w16 ⟨rfl, hb⟩; have n0_ := Aside0.mk (below_step (by repeat (first | (with_reducible first | exact HB.out | apply below_alloc | apply pw_below_drewN | apply below_drew1) | exact HB.out)) hb); clear HB; have HB := n0_; clear n0_; (try clear hb); (try clear hb2); (try clear hk); (try clear hi)))
              repeat (go_quiet (first | (go_at_call 37; (with_reducible refine (crierref20_May.calls k1 ((rd_T54 l0 x3_1).f0) ((rd_T54 l0 x3_1).f1) ((rd_T54 l0 x3_1).f2) ((rd_T54 l0 x3_1).f3) ((rd_T54 l0 x3_1).f4) ((rd_T54 l0 x3_1).f5) ((rd_T54 l0 x3_1).f6) false _ A5.out).mono ?_); rintro e w16 ⟨rfl, hb⟩; have n0_ := Aside0.mk (below_step (by repeat (first | (with_reducible first | exact HB.out | apply below_alloc | apply pw_below_drewN | apply below_drew1) | exact HB.out)) hb); clear HB; have HB := n0_; clear n0_; (try clear hb); (try clear hb2); (try clear hk); (try clear hi))); try go_wp2_with (first | (go_at_call 37; (with_reducible refine (crierref20_May.calls k1 ((rd_T54 l0 x3_1).f0) ((rd_T54 l0 x3_1).f1) ((rd_T54 l0 x3_1).f2) ((rd_T54 l0 x3_1).f3) ((rd_T54 l0 x3_1).f4) ((rd_T54 l0 x3_1).f5) ((rd_T54 l0 x3_1).f6) false _ A5.out).mono ?_); rintro e w16 ⟨rfl, hb⟩; have n0_ := Aside0.mk (below_step (by repeat (first | (with_reducible first | exact HB.out | apply below_alloc | apply pw_below_drewN | apply below_drew1) | exact HB.out)) hb); clear HB; have HB := n0_; clear n0_; (try clear hb); (try clear hb2); (try clear hk); (try clear hi))))
              go_ret
              exact ⟨by first | rfl | (simp [errW_none, errW_some] <;> rfl) | (simp [*, errW_none, errW_some] <;> rfl), by repeat (first | (with_reducible first | exact HB.out | apply below_alloc | apply pw_below_drewN | apply below_drew1) | exact HB.out)⟩
          · rw [if_neg c4] at H
            exact absurd H (by simp)
        · rw [if_neg c3] at H
          have c3b0 : decide (x3_1 < (l0.length : Int)) = false := decide_eq_false c3
          clear c3
          obtain rfl := Option.some.inj H
          go_wp2
          repeat (go_quiet (fail); try go_wp2)
          go_ret
          exact ⟨by first | rfl | (simp [errW_none, errW_some] <;> rfl) | (simp [*, errW_none, errW_some] <;> rfl), by repeat (first | (with_reducible first | exact HB.out | apply below_alloc | apply pw_below_drewN | apply below_drew1) | exact HB.out)⟩
end Go.Proofs.Ytkbaghblchlcnaa.IAll
namespace Go.Proofs.Ytkbaghblchlcnaa.Lr
open Go.RowKit Go.Proofs.Ytkbaghblchlcnaa.IAll Go.Proofs.YtkbaghblchlcnaaW.PrintWords Go.Proofs.YtkbaghblchlcnaaW.PrintLast Go.Proofs.YtkbaghblchlcnaaW.PrintMore
theorem w64 (n : Int) (h : -9223372036854775808 ≤ n ∧ n ≤ 9223372036854775807) : wrap64 n = n := IntWalk.wrap64_in n h
theorem may_is (K : Nat) (s n p g : Int) (h : Bool) (m : Int) (t : Bool) : lr_May.f (K + 2) s n p g h m t = some (if ok s n p g h m t then 0 else 200) := rfl
theorem rmay_is (K : Nat) (s n p g : Int) (h : Bool) (m : Int) (t : Bool) : crierref20_May.f (K + 3) s n p g h m t = some (decide (ok s n p g h m t)) := rfl
theorem step_is (i n : Nat) (h : i < n) (hn : n ≤ 9223372036854775806) : wrap64 ((i : Int) + 1) = ((i + 1 : Nat) : Int) := by rw [w64 _ (by omega)]; simp
def okS (x : S54) : Prop := ok x.f0 x.f1 x.f2 x.f3 x.f4 x.f5 x.f6
instance (x : S54) : Decidable (okS x) := by unfold okS; infer_instance
/-- do two stand for one interrupt? -/
def clash (x y : S54) : Prop := x.f0 ≠ 0 ∧ y.f0 ≠ 0 ∧ x.f1 = y.f1
theorem rd_take (l : List S54) (i j : Nat) (h : j < i) : rd_T54 (l.take i) j = rd_T54 l j := by
  unfold rd_T54
  simp only [Int.toNat_natCast, List.getD_eq_getElem?_getD]
  rw [List.getElem?_take_of_lt h]
/-- the inner loop -/
theorem inner (l : List S54) (hl : l.length ≤ 16) (i : Nat) (hi : i < l.length) (m : Nat) : ∀ (K j : Nat), j + m = i →
    ((∃ q : Nat, j ≤ q ∧ q < i ∧ clash (rd_T54 l i) (rd_T54 l q)) → lr_Right.l1 (m + 1 + K) l l (l.length : Int) (i : Int) (l.take i) (i : Int) (j : Int) (rd_T54 l i).f0 (rd_T54 l i).f1 (rd_T54 l i).f2 (rd_T54 l i).f3 (rd_T54 l i).f4 (rd_T54 l i).f5 (rd_T54 l i).f6 = some 200) ∧
    ((¬ ∃ q : Nat, j ≤ q ∧ q < i ∧ clash (rd_T54 l i) (rd_T54 l q)) → lr_Right.l1 (m + 1 + K) l l (l.length : Int) (i : Int) (l.take i) (i : Int) (j : Int) (rd_T54 l i).f0 (rd_T54 l i).f1 (rd_T54 l i).f2 (rd_T54 l i).f3 (rd_T54 l i).f4 (rd_T54 l i).f5 (rd_T54 l i).f6 =
      lr_Right.l0 K l l (l.length : Int) ((i + 1 : Nat) : Int)) := by
  have htl : (l.take i).length = i := by rw [List.length_take]; omega
  induction m with
  | zero =>
    intro K j hj
    have hw := step_is i 16 (by omega) (by decide)
    rw [show 0 + 1 + K = K + 1 by omega, lr_Right.l1, if_neg (show ¬ (j : Int) < (i : Int) by omega), hw]
    exact ⟨fun ⟨q, h1, h2, _⟩ => by omega, fun _ => rfl⟩
  | succ m ih =>
    intro K j hj
    have hw := step_is j 16 (by omega) (by decide)
    have hji : j < i := by clear hw ih; omega
    have e1 : (j : Int) < (i : Int) := Int.ofNat_lt.2 hji
    have e2 : (0 : Int) ≤ (j : Int) := Int.natCast_nonneg j
    have e3 : (j : Int) < ((l.take i).length : Int) := by rw [htl]; exact e1
    rw [show m + 1 + 1 + K = (m + 1 + K) + 1 by omega, lr_Right.l1, if_pos e1, if_pos e2, if_pos e3, rd_take l i j hji, hw]
    clear hw
    obtain ⟨i1, i2⟩ := ih K (j + 1) (by omega)
    have split : (∃ q : Nat, j ≤ q ∧ q < i ∧ clash (rd_T54 l i) (rd_T54 l q)) ↔ clash (rd_T54 l i) (rd_T54 l j) ∨ ∃ q : Nat, j + 1 ≤ q ∧ q < i ∧ clash (rd_T54 l i) (rd_T54 l q) := by
      constructor
      · rintro ⟨q, h1, h2, h3⟩
        by_cases e : q = j
        · subst e; exact .inl h3
        · exact .inr ⟨q, by omega, h2, h3⟩
      · rintro (h | ⟨q, h1, h2, h3⟩)
        · exact ⟨j, Nat.le_refl _, hji, h⟩
        · exact ⟨q, by omega, h2, h3⟩
    rw [split]
    by_cases c1 : (rd_T54 l i).f0 = 0
    · rw [if_pos c1]
      have hn : ¬ clash (rd_T54 l i) (rd_T54 l j) := fun h => h.1 c1
      exact ⟨fun h => i1 (h.resolve_left hn), fun h => i2 (fun h' => h (.inr h'))⟩
    · rw [if_neg c1]
      by_cases c2 : (rd_T54 l j).f0 = 0
      · rw [if_pos c2]
        have hn : ¬ clash (rd_T54 l i) (rd_T54 l j) := fun h => h.2.1 c2
        exact ⟨fun h => i1 (h.resolve_left hn), fun h => i2 (fun h' => h (.inr h'))⟩
      · rw [if_neg c2]
        by_cases c3 : (rd_T54 l i).f1 = (rd_T54 l j).f1
        · rw [if_pos c3]
          exact ⟨fun _ => rfl, fun h => absurd (.inl ⟨c1, c2, c3⟩) h⟩
        · rw [if_neg c3]
          have hn : ¬ clash (rd_T54 l i) (rd_T54 l j) := fun h => c3 h.2.2
          exact ⟨fun h => i1 (h.resolve_left hn), fun h => i2 (fun h' => h (.inr h'))⟩
/-- one that may not be, or not beside one ahead of it -/
def badAt (l : List S54) (a : Nat) : Prop := ¬ okS (rd_T54 l a) ∨ ∃ q : Nat, q < a ∧ clash (rd_T54 l a) (rd_T54 l q)
theorem outer (l : List S54) (hl : l.length ≤ 16) (m : Nat) : ∀ (K i : Nat), i + m = l.length →
    ((∃ a : Nat, i ≤ a ∧ a < l.length ∧ badAt l a) → lr_Right.l0 (20 * m + 3 + K) l l (l.length : Int) (i : Int) = some 200) ∧
    ((¬ ∃ a : Nat, i ≤ a ∧ a < l.length ∧ badAt l a) → lr_Right.l0 (20 * m + 3 + K) l l (l.length : Int) (i : Int) = some 0) := by
  induction m with
  | zero =>
    intro K i hi
    rw [show 20 * 0 + 3 + K = (K + 2) + 1 by omega, lr_Right.l0, if_neg (show ¬ (i : Int) < (l.length : Int) by omega)]
    exact ⟨fun ⟨q, h1, h2, _⟩ => by omega, fun _ => rfl⟩
  | succ m ih =>
    intro K i hi
    have hil : i < l.length := by clear ih; omega
    have e1 : (i : Int) < (l.length : Int) := Int.ofNat_lt.2 hil
    have e2 : (0 : Int) ≤ (i : Int) := Int.natCast_nonneg i
    have e3 : (i : Int) ≤ (l.length : Int) := Int.le_of_lt e1
    have htl : (l.take i).length = i := by rw [List.length_take]; omega
    rw [show 20 * (m + 1) + 3 + K = (20 * m + 20 + K + 2) + 1 by omega, lr_Right.l0, if_pos e1, if_pos e2, if_pos e1, may_is, Option.bind_some]
    have split : (∃ a : Nat, i ≤ a ∧ a < l.length ∧ badAt l a) ↔ badAt l i ∨ ∃ a : Nat, i + 1 ≤ a ∧ a < l.length ∧ badAt l a := by
      constructor
      · rintro ⟨q, h1, h2, h3⟩
        by_cases e : q = i
        · subst e; exact .inl h3
        · exact .inr ⟨q, by omega, h2, h3⟩
      · rintro (h | ⟨q, h1, h2, h3⟩)
        · exact ⟨i, Nat.le_refl _, hil, h⟩
        · exact ⟨q, by omega, h2, h3⟩
    rw [split]
    by_cases hk : okS (rd_T54 l i)
    · have hk' : ok (rd_T54 l i).f0 (rd_T54 l i).f1 (rd_T54 l i).f2 (rd_T54 l i).f3 (rd_T54 l i).f4 (rd_T54 l i).f5 (rd_T54 l i).f6 := hk
      rw [if_pos hk', if_pos rfl, if_pos e3, Option.bind_some, Int.toNat_natCast, htl, show 20 * m + 20 + K + 2 = i + 1 + (20 * m + 3 + (18 - i + K)) by omega]
      obtain ⟨j1, j2⟩ := inner l hl i hil i (20 * m + 3 + (18 - i + K)) 0 (by omega)
      obtain ⟨i1, i2⟩ := ih (18 - i + K) (i + 1) (by omega)
      by_cases hq : ∃ q : Nat, 0 ≤ q ∧ q < i ∧ clash (rd_T54 l i) (rd_T54 l q)
      · have := j1 hq
        simp only [Int.natCast_zero] at this
        rw [this]
        obtain ⟨q, _, hq1, hq2⟩ := hq
        exact ⟨fun _ => rfl, fun h => absurd (.inl (.inr ⟨q, hq1, hq2⟩)) h⟩
      · have := j2 hq
        simp only [Int.natCast_zero] at this
        rw [this]
        have hn : ¬ badAt l i := by
          rintro (h | ⟨q, hq1, hq2⟩)
          · exact h hk
          · exact hq ⟨q, Nat.zero_le _, hq1, hq2⟩
        exact ⟨fun h => i1 (h.resolve_left hn), fun h => i2 (fun h' => h (.inr h'))⟩
    · have hk' : ¬ ok (rd_T54 l i).f0 (rd_T54 l i).f1 (rd_T54 l i).f2 (rd_T54 l i).f3 (rd_T54 l i).f4 (rd_T54 l i).f5 (rd_T54 l i).f6 := hk
      rw [if_neg hk', if_neg (by decide)]
      exact ⟨fun _ => rfl, fun h => absurd (.inl (.inl hk)) h⟩
theorem right_bad (l : List S54) (hl : l.length ≤ 16) (K : Nat) (h : ∃ a : Nat, a < l.length ∧ badAt l a) : lr_Right.f (400 + K) l = some 200 := by
  unfold lr_Right.f
  rw [if_neg (by omega), show 400 + K = 20 * l.length + 3 + (397 - 20 * l.length + K) by omega]
  obtain ⟨a, h1, h2⟩ := h
  exact (outer l hl l.length _ 0 (by omega)).1 ⟨a, Nat.zero_le _, h1, h2⟩
theorem right_good (l : List S54) (hl : l.length ≤ 16) (K : Nat) (h : ¬ ∃ a : Nat, a < l.length ∧ badAt l a) : lr_Right.f (400 + K) l = some 0 := by
  unfold lr_Right.f
  rw [if_neg (by omega), show 400 + K = 20 * l.length + 3 + (397 - 20 * l.length + K) by omega]
  exact (outer l hl l.length _ 0 (by omega)).2 (fun ⟨a, _, h1, h2⟩ => h ⟨a, h1, h2⟩)
end Go.Proofs.Ytkbaghblchlcnaa.Lr
namespace Go.Proofs.Ytkbaghblchlcnaa
open Go.RowKit Go.Shelf
attribute [local go_sem] Oper.semAt_some
/-- the bit of place i: priority 8 (i / 2), group i % 2 -/
def rb (a b : Int) (i : Nat) : Bool := if i % 2 = 0 then tb a (i / 2) else tb b (i / 2)
def cell (a b : Int) (i : Nat) : List (Int × Int) := if rb a b i then [(8 * (i / 2 : Nat), (i % 2 : Nat))] else []
def allUpto (a b : Int) : Nat → List (Int × Int)
  | 0 => []
  | n + 1 => allUpto a b n ++ cell a b n
def allL (a b : Int) : List (Int × Int) := allUpto a b 64
theorem allUpto_mono (a b : Int) (n d : Nat) : ∃ post, allUpto a b (n + d) = allUpto a b n ++ post := by
  induction d with
  | zero => exact ⟨[], by simp⟩
  | succ d ih =>
    obtain ⟨post, h⟩ := ih
    exact ⟨post ++ cell a b (n + d), by rw [show n + (d + 1) = (n + d) + 1 by omega, allUpto, h, List.append_assoc]⟩
theorem allL_at (a b : Int) (n : Nat) (hn : n < 64) (h : rb a b n = true) : ∃ post, allL a b = allUpto a b n ++ ((8 * (n / 2 : Nat) : Int), ((n % 2 : Nat) : Int)) :: post := by
  obtain ⟨post, hp⟩ := allUpto_mono a b (n + 1) (63 - n)
  rw [show n + 1 + (63 - n) = 64 by omega] at hp
  exact ⟨post, by rw [allL, hp, allUpto, cell, if_pos h]; simp⟩
theorem step0 (a b : Int) (k : Nat) : allUpto a b (2 * k + 1) = allUpto a b (2 * k) ++ if tb a k then [((8 * k : Int), (0 : Int))] else [] := by
  have h : rb a b (2 * k) = tb a k := by rw [rb, if_pos (by omega), show 2 * k / 2 = k by omega]
  rw [allUpto, cell, h, show 2 * k / 2 = k by omega, show 2 * k % 2 = 0 by omega]; rfl
theorem step1 (a b : Int) (k : Nat) : allUpto a b (2 * (k + 1)) = allUpto a b (2 * k + 1) ++ if tb b k then [((8 * k : Int), (1 : Int))] else [] := by
  have h : rb a b (2 * k + 1) = tb b k := by rw [rb, if_neg (by omega), show (2 * k + 1) / 2 = k by omega]
  rw [show 2 * (k + 1) = (2 * k + 1) + 1 by omega, allUpto, cell, h, show (2 * k + 1) / 2 = k by omega, show (2 * k + 1) % 2 = 1 by omega]; rfl
theorem at0 (a b : Int) (k : Nat) (hk : k < 32) (h : tb a k = true) : ∃ post, allL a b = allUpto a b (2 * k) ++ ((8 * k : Int), (0 : Int)) :: post := by
  obtain ⟨post, hp⟩ := allL_at a b (2 * k) (by omega) (by rw [rb, if_pos (by omega), show 2 * k / 2 = k by omega]; exact h)
  rw [show 2 * k / 2 = k by omega, show 2 * k % 2 = 0 by omega] at hp
  exact ⟨post, hp⟩
theorem at1 (a b : Int) (k : Nat) (hk : k < 32) (h : tb b k = true) : ∃ post, allL a b = allUpto a b (2 * k + 1) ++ ((8 * k : Int), (1 : Int)) :: post := by
  obtain ⟨post, hp⟩ := allL_at a b (2 * k + 1) (by omega) (by rw [rb, if_neg (by omega), show (2 * k + 1) / 2 = k by omega]; exact h)
  rw [show (2 * k + 1) / 2 = k by omega, show (2 * k + 1) % 2 = 1 by omega] at hp
  exact ⟨post, hp⟩
theorem All_c (a b : Int) (w : World) : Calls Try.prog 91 #[(.agg #[.int .u32 a, .int .u32 b])] w fun e w' => e = .returned (.func (.func 99) #[] #[.pointer (some ⟨w.heap.size, 0, none⟩)]) ∧ w.alloc (.cells #[.int .u32 a, .int .u32 b] 33) = w' := by
  go_enter Try.func91, Try.ntmps91
  go_wp2
  go_ret
  exact ⟨rfl, rfl⟩
set_option maxRecDepth 100000 in
set_option maxHeartbeats 1000000 in
theorem all_iter (Pv : Obj → Prop) (S : Nat → Prop) (T : TypeId → Prop) (a b : Int) (Bm : Nat) (W0 : World) (hS : S Bm) (hc : BoxN W0 Bm 33 #[.int .u32 a, .int .u32 b]) :
    Iter Pv Try.prog 99 #[.pointer (some ⟨Bm, 0, none⟩)] (fun x : Int × Int => #[.int .i64 x.1, .int .i64 x.2]) (KeepsS S T) (allL a b) W0 := by
  intro l J Jx W hW hJ hJx hY h0
  have hc1 : BoxN W Bm 33 #[.int .u32 a, .int .u32 b] := (hW.block Bm hc.lt).trans hc
  clear hc
  refine callsIn_of_wp Try.func99 rfl trivial ?_ rfl
  simp only [Try.ntmps99, List.size_toArray, List.length_cons, List.length_nil, Nat.reduceAdd, Nat.reduceSub, Array.replicate_succ, Array.replicate_zero, List.push_toArray, List.append_toArray, List.nil_append, List.cons_append]
  gi_wp2
  gi_loopw [5] (fun p wr => ∃ k : Nat, k ≤ 32 ∧ p = .int .i64 k ∧ J (allUpto a b (2 * k)) wr ∧ KeepsS S T W wr) (fun p _ => 32 - (intOf p).toNat)
  case atStart => exact ⟨0, by omega, rfl, h0, KeepsS.refl _ _ _⟩
  case round =>
    obtain ⟨k, hk, rfl, hj, hB⟩ := hrel
    by_cases hlt : k < 32
    · have hd : decide ((k : Int) < 32) = true := decide_eq_true (by omega)
      gi_wp2
      gi_loopw [8] (fun p wx => ∃ g : Int, 0 ≤ g ∧ g ≤ 2 ∧ p = .int .i64 g ∧ J (if g = 2 then allUpto a b (2 * (k + 1)) else if g = 1 then allUpto a b (2 * k + 1) else allUpto a b (2 * k)) wx ∧ KeepsS S T W wx) (fun p _ => 2 - (intOf p).toNat)
      case atStart => exact ⟨0, by omega, by omega, rfl, hj, hB⟩
      case round =>
        clear hj hB
        obtain ⟨g, hg0, hg, rfl, hj, hB⟩ := hrel
        have hx := hB.boxN hS hc1
        obtain rfl | rfl | rfl : g = 0 ∨ g = 1 ∨ g = 2 := by omega
        · simp only [show ¬ ((0 : Int) = 2) by omega, show ¬ ((0 : Int) = 1) by omega, if_false] at hj
          have hcell := hx.cell (i := 0) rfl
          have hs := step0 a b k
          by_cases ht : tb a k = true
          · have ht1 : (bits .and .u32 (a / 2 ^ k) 1 == 1) = true := by rw [bit_test_w]; exact ht
            rw [if_pos ht] at hs
            have HS := Lib.hid hs
            obtain ⟨post, hxs⟩ := at0 a b k hlt ht
            obtain ⟨fn, tmps, assign, body, hy, hR⟩ := hY _ _ _ wr hxs hj
            have HX := Lib.hid hxs
            clear hs hxs ht hg0 hg
            gi_wp2
            refine hR.mono ?_
            rintro e W3 ⟨(⟨rfl, hJ3, hk3⟩ | ⟨rfl, hJx3⟩), -⟩
            · gi_wp2
              go_roundw
              case rel => exact ⟨1, by omega, by omega, rfl, by simp only [show ¬ ((1 : Int) = 2) by omega, if_false, if_true]; rw [HS.out]; exact hJ3, hB.trans hk3⟩
              case measure => simp [intOf]
            · gi_wp2
              refine bodyPost_ret (results_none rfl _ _ _) rfl ?_
              exact ⟨⟨_, rfl⟩, .inr ⟨_, _, _, HX.out, hJx3⟩⟩
          · have ht1 : (bits .and .u32 (a / 2 ^ k) 1 == 1) = false := by rw [bit_test_w]; simpa using ht
            rw [if_neg ht, List.append_nil] at hs
            have HS := Lib.hid hs
            clear hs ht hg0 hg
            gi_wp2
            go_roundw
            case rel => exact ⟨1, by omega, by omega, rfl, by simp only [show ¬ ((1 : Int) = 2) by omega, if_false, if_true]; rw [HS.out]; exact hj, hB⟩
            case measure => simp [intOf]
        · simp only [show ¬ ((1 : Int) = 2) by omega, if_false, if_true] at hj
          have hcell := hx.cell (i := 1) rfl
          have hs := step1 a b k
          by_cases ht : tb b k = true
          · have ht1 : (bits .and .u32 (b / 2 ^ k) 1 == 1) = true := by rw [bit_test_w]; exact ht
            rw [if_pos ht] at hs
            have HS := Lib.hid hs
            obtain ⟨post, hxs⟩ := at1 a b k hlt ht
            obtain ⟨fn, tmps, assign, body, hy, hR⟩ := hY _ _ _ wr hxs hj
            have HX := Lib.hid hxs
            clear hs hxs ht hg0 hg
            gi_wp2
            refine hR.mono ?_
            rintro e W3 ⟨(⟨rfl, hJ3, hk3⟩ | ⟨rfl, hJx3⟩), -⟩
            · gi_wp2
              go_roundw
              case rel => exact ⟨2, by omega, by omega, rfl, by simp only [if_true]; rw [HS.out]; exact hJ3, hB.trans hk3⟩
              case measure => simp [intOf]
            · gi_wp2
              refine bodyPost_ret (results_none rfl _ _ _) rfl ?_
              exact ⟨⟨_, rfl⟩, .inr ⟨_, _, _, HX.out, hJx3⟩⟩
          · have ht1 : (bits .and .u32 (b / 2 ^ k) 1 == 1) = false := by rw [bit_test_w]; simpa using ht
            rw [if_neg ht, List.append_nil] at hs
            have HS := Lib.hid hs
            clear hs ht hg0 hg
            gi_wp2
            go_roundw
            case rel => exact ⟨2, by omega, by omega, rfl, by simp only [if_true]; rw [HS.out]; exact hj, hB⟩
            case measure => simp [intOf]
        · simp only [if_true] at hj
          clear hg0 hg
          gi_wp2
          go_roundw
          case rel => exact ⟨k + 1, by omega, congrArg (Value.int .i64) (by omega), hj, hB⟩
          case measure => simp [intOf]; omega
    · obtain rfl : k = 32 := by omega
      gi_wp2
      go_end0
      exact ⟨⟨_, rfl⟩, .inl hj⟩
end Go.Proofs.Ytkbaghblchlcnaa
