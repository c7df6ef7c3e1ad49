-- Written by the program wip/gen/inj.py of this repository, out of the translation, for this claim. Not trusted: Lean checks it.
import Derived.Test.YtjkbocejdjnfiaaIAllx0
import Derived.Test.YtjkbocejdjnfiaaIAllx5
namespace Go.Proofs.Ytjkbocejdjnfiaa.IAll
open Go.RowKit Go.Proofs.YtjkbocejdjnfiaaW.PrintWords Go.Proofs.YtjkbocejdjnfiaaW.PrintLast Go.Proofs.YtjkbocejdjnfiaaW.PrintMore
attribute [local go_sem] max2_int min2_int max_two min_two max_three min_three max_four min_four   -- for this text's walks alone
set_option linter.unusedVariables false
set_option linter.unusedSimpArgs false

/-! ### crierref05_New: function 11 -/
mutual
def crierref05_New.l0 : Nat → List (S33) → Int → Option ((List (S33)) × Int)
  | 0, _, _ => none
  | k + 1, x0, x4 => if x4 < (x0.length : Int) then (if 0 ≤ x4 then ((crierref05_Right.f ((rd_T33 x0 x4).f0) ((rd_T33 x0 x4).f1) ((rd_T33 x0 x4).f2) ((rd_T33 x0 x4).f3)).bind fun t111 => (if t111 = true then (crierref05_New.l0 k x0 (wrap64 (x4 + 1))) else (some (([] : List (S33)), 1)))) else (none)) else (crierref05_New.l1 k x0 ([] : List (S33)) 0)
def crierref05_New.l1 : Nat → List (S33) → List (S33) → Int → Option ((List (S33)) × Int)
  | 0, _, _, _ => none
  | k + 1, x0, x5, x6 => if x6 < (x0.length : Int) then (crierref05_New.l2 k x0 x5 x6 ([] : List (S33)) false 0) else (crierref05_New.l3 k x5 0)
def crierref05_New.l2 : Nat → List (S33) → List (S33) → Int → List (S33) → Bool → Int → Option ((List (S33)) × Int)
  | 0, _, _, _, _, _, _ => none
  | k + 1, x0, x5, x6, x7, x8, x9 => if x9 < (x5.length : Int) then (if x8 = true then (if 0 ≤ x9 then (if x7.length < 4398046511104 then (crierref05_New.l2 k x0 x5 x6 (x7 ++ [(⟨(rd_T33 x5 x9).f0, (rd_T33 x5 x9).f1, (rd_T33 x5 x9).f2, (rd_T33 x5 x9).f3⟩ : S33)]) x8 (wrap64 (x9 + 1))) else (none)) else (none)) else (if 0 ≤ x6 then (if x6 < (x0.length : Int) then (if 0 ≤ x9 then (if ((rd_T33 x0 x6).f0) < ((rd_T33 x5 x9).f0) then (if x7.length < 4398046511104 then ((some (x7 ++ [(⟨(rd_T33 x0 x6).f0, (rd_T33 x0 x6).f1, (rd_T33 x0 x6).f2, (rd_T33 x0 x6).f3⟩ : S33)] : List (S33))).bind fun y119 => (if y119.length < 4398046511104 then (crierref05_New.l2 k x0 x5 x6 (y119 ++ [(⟨(rd_T33 x5 x9).f0, (rd_T33 x5 x9).f1, (rd_T33 x5 x9).f2, (rd_T33 x5 x9).f3⟩ : S33)]) true (wrap64 (x9 + 1))) else (none))) else (none)) else (if x7.length < 4398046511104 then (crierref05_New.l2 k x0 x5 x6 (x7 ++ [(⟨(rd_T33 x5 x9).f0, (rd_T33 x5 x9).f1, (rd_T33 x5 x9).f2, (rd_T33 x5 x9).f3⟩ : S33)]) x8 (wrap64 (x9 + 1))) else (none))) else (none)) else (none)) else (none))) else (if x8 = true then (crierref05_New.l1 k x0 x7 (wrap64 (x6 + 1))) else (if 0 ≤ x6 then (if x6 < (x0.length : Int) then (if x7.length < 4398046511104 then (crierref05_New.l1 k x0 (x7 ++ [(⟨(rd_T33 x0 x6).f0, (rd_T33 x0 x6).f1, (rd_T33 x0 x6).f2, (rd_T33 x0 x6).f3⟩ : S33)]) (wrap64 (x6 + 1))) else (none)) else (none)) else (none)))
def crierref05_New.l3 : Nat → List (S33) → Int → Option ((List (S33)) × Int)
  | 0, _, _ => none
  | k + 1, x5, x10 => if x10 < (x5.length : Int) then (crierref05_New.l4 k x5 x10 0) else (some (x5, 0))
def crierref05_New.l4 : Nat → List (S33) → Int → Int → Option ((List (S33)) × Int)
  | 0, _, _, _ => none
  | k + 1, x5, x10, x11 => if x11 < x10 then (if 0 ≤ x10 then (if x10 < (x5.length : Int) then (if 0 ≤ x11 then (if x11 < (x5.length : Int) then (if ((rd_T33 x5 x10).f0) < (wrap64 (((rd_T33 x5 x11).f0) + ((rd_T33 x5 x11).f1))) then (if ((rd_T33 x5 x11).f0) < (wrap64 (((rd_T33 x5 x10).f0) + ((rd_T33 x5 x10).f1))) then (some (([] : List (S33)), 50)) else (crierref05_New.l4 k x5 x10 (wrap64 (x11 + 1)))) else (crierref05_New.l4 k x5 x10 (wrap64 (x11 + 1)))) else (none)) else (none)) else (none)) else (none)) else (crierref05_New.l3 k x5 (wrap64 (x10 + 1)))
end
def crierref05_New.f (k : Nat) (l0 : List (S33)) : Option ((List (S33)) × Int) := if (l0.length : Int) > 32 then (some (([] : List (S33)), 1)) else (crierref05_New.l0 k l0 0)
theorem crierref05_New.mono_l : ∀ k, (∀ y0 y1, LeO (crierref05_New.l0 k y0 y1) (crierref05_New.l0 (k + 1) y0 y1)) ∧ (∀ y0 y1 y2, LeO (crierref05_New.l1 k y0 y1 y2) (crierref05_New.l1 (k + 1) y0 y1 y2)) ∧ (∀ y0 y1 y2 y3 y4 y5, LeO (crierref05_New.l2 k y0 y1 y2 y3 y4 y5) (crierref05_New.l2 (k + 1) y0 y1 y2 y3 y4 y5)) ∧ (∀ y0 y1, LeO (crierref05_New.l3 k y0 y1) (crierref05_New.l3 (k + 1) y0 y1)) ∧ (∀ y0 y1 y2, LeO (crierref05_New.l4 k y0 y1 y2) (crierref05_New.l4 (k + 1) y0 y1 y2))
  | 0 => ⟨fun _ _ r h => by simp [crierref05_New.l0] at h, fun _ _ _ r h => by simp [crierref05_New.l1] at h, fun _ _ _ _ _ _ r h => by simp [crierref05_New.l2] at h, fun _ _ r h => by simp [crierref05_New.l3] at h, fun _ _ _ r h => by simp [crierref05_New.l4] at h⟩
  | k + 1 => by
    obtain ⟨ih0, ih1, ih2, ih3, ih4⟩ := crierref05_New.mono_l k
    refine ⟨?_, ?_, ?_, ?_, ?_⟩
    · intro y0 y1
      unfold crierref05_New.l0
      repeat' first
      | (with_reducible exact ih0 _ _)
      | (with_reducible exact ih1 _ _ _)
      | (with_reducible exact ih2 _ _ _ _ _ _)
      | (with_reducible exact ih3 _ _)
      | (with_reducible exact ih4 _ _ _)
      | (with_reducible exact LeO.refl _)
      | (with_reducible exact LeO.none _)
      | (with_reducible refine LeO.ite ?_ ?_)
      | (with_reducible refine LeO.bind ?_ (fun _ => ?_))
      | exact ih0 _ _
      | exact ih1 _ _ _
      | exact ih2 _ _ _ _ _ _
      | exact ih3 _ _
      | exact ih4 _ _ _
      | exact LeO.none _
      | refine LeO.ite ?_ ?_
      | refine LeO.bind ?_ (fun _ => ?_)
    · intro y0 y1 y2
      unfold crierref05_New.l1
      repeat' first
      | (with_reducible exact ih0 _ _)
      | (with_reducible exact ih1 _ _ _)
      | (with_reducible exact ih2 _ _ _ _ _ _)
      | (with_reducible exact ih3 _ _)
      | (with_reducible exact ih4 _ _ _)
      | (with_reducible exact LeO.refl _)
      | (with_reducible exact LeO.none _)
      | (with_reducible refine LeO.ite ?_ ?_)
      | (with_reducible refine LeO.bind ?_ (fun _ => ?_))
      | exact ih0 _ _
      | exact ih1 _ _ _
      | exact ih2 _ _ _ _ _ _
      | exact ih3 _ _
      | exact ih4 _ _ _
      | exact LeO.none _
      | refine LeO.ite ?_ ?_
      | refine LeO.bind ?_ (fun _ => ?_)
    · intro y0 y1 y2 y3 y4 y5
      unfold crierref05_New.l2
      repeat' first
      | (with_reducible exact ih0 _ _)
      | (with_reducible exact ih1 _ _ _)
      | (with_reducible exact ih2 _ _ _ _ _ _)
      | (with_reducible exact ih3 _ _)
      | (with_reducible exact ih4 _ _ _)
      | (with_reducible exact LeO.refl _)
      | (with_reducible exact LeO.none _)
      | (with_reducible refine LeO.ite ?_ ?_)
      | (with_reducible refine LeO.bind ?_ (fun _ => ?_))
      | exact ih0 _ _
      | exact ih1 _ _ _
      | exact ih2 _ _ _ _ _ _
      | exact ih3 _ _
      | exact ih4 _ _ _
      | exact LeO.none _
      | refine LeO.ite ?_ ?_
      | refine LeO.bind ?_ (fun _ => ?_)
    · intro y0 y1
      unfold crierref05_New.l3
      repeat' first
      | (with_reducible exact ih0 _ _)
      | (with_reducible exact ih1 _ _ _)
      | (with_reducible exact ih2 _ _ _ _ _ _)
      | (with_reducible exact ih3 _ _)
      | (with_reducible exact ih4 _ _ _)
      | (with_reducible exact LeO.refl _)
      | (with_reducible exact LeO.none _)
      | (with_reducible refine LeO.ite ?_ ?_)
      | (with_reducible refine LeO.bind ?_ (fun _ => ?_))
      | exact ih0 _ _
      | exact ih1 _ _ _
      | exact ih2 _ _ _ _ _ _
      | exact ih3 _ _
      | exact ih4 _ _ _
      | exact LeO.none _
      | refine LeO.ite ?_ ?_
      | refine LeO.bind ?_ (fun _ => ?_)
    · intro y0 y1 y2
      unfold crierref05_New.l4
      repeat' first
      | (with_reducible exact ih0 _ _)
      | (with_reducible exact ih1 _ _ _)
      | (with_reducible exact ih2 _ _ _ _ _ _)
      | (with_reducible exact ih3 _ _)
      | (with_reducible exact ih4 _ _ _)
      | (with_reducible exact LeO.refl _)
      | (with_reducible exact LeO.none _)
      | (with_reducible refine LeO.ite ?_ ?_)
      | (with_reducible refine LeO.bind ?_ (fun _ => ?_))
      | exact ih0 _ _
      | exact ih1 _ _ _
      | exact ih2 _ _ _ _ _ _
      | exact ih3 _ _
      | exact ih4 _ _ _
      | exact LeO.none _
      | refine LeO.ite ?_ ?_
      | refine LeO.bind ?_ (fun _ => ?_)
theorem crierref05_New.mono : ∀ a0 k, LeO (crierref05_New.f k a0) (crierref05_New.f (k + 1) a0) := by
  intro a0 k
  obtain ⟨ih0, ih1, ih2, ih3, ih4⟩ := crierref05_New.mono_l k
  unfold crierref05_New.f
  repeat' first
      | (with_reducible exact ih0 _ _)
      | (with_reducible exact ih1 _ _ _)
      | (with_reducible exact ih2 _ _ _ _ _ _)
      | (with_reducible exact ih3 _ _)
      | (with_reducible exact ih4 _ _ _)
      | (with_reducible exact LeO.refl _)
      | (with_reducible exact LeO.none _)
      | (with_reducible refine LeO.ite ?_ ?_)
      | (with_reducible refine LeO.bind ?_ (fun _ => ?_))
      | exact ih0 _ _
      | exact ih1 _ _ _
      | exact ih2 _ _ _ _ _ _
      | exact ih3 _ _
      | exact ih4 _ _ _
      | exact LeO.none _
      | refine LeO.ite ?_ ?_
      | refine LeO.bind ?_ (fun _ => ?_)
set_option maxHeartbeats 8000000 in
set_option maxRecDepth 100000 in
theorem crierref05_New.calls (k : Nat) (A0 : Option Addr) (c0 : Nat) (l0 : List (S33)) (r1 : List (S33)) (r2 : Int) (w : World) (hr0 : Kd.C k33 w A0 l0.length l0) (hc0 : l0.length ≤ c0) (h : crierref05_New.f k l0 = some (r1, r2)) :
    Calls Try.prog 11 #[.slice A0 l0.length c0] w fun e w' => ∃ v0_ : Value, e = .returned (.tuple #[v0_, .int .i64 r2]) ∧ Kd.R k33 33 w' w.heap.size (fun _ => True) v0_ r1 ∧ Below w.heap.size w w' := by
  have hu33 := Try.underlying33
  have HR0 := Aside0.mk hr0
  have HC0 := Aside0.mk hc0
  clear hr0 hc0
  have HB := Aside0.mk (Below.refl w.heap.size w)
  have H : (if (l0.length : Int) > 32 then (some (([] : List (S33)), 1)) else (crierref05_New.l0 k l0 0)) = some (r1, r2) := h
  clear h
  by_cases c2 : (l0.length : Int) > 32
  · rw [if_pos c2] at H
    have c2b0 : decide (32 < (l0.length : Int)) = true := decide_eq_true c2
    have c2b1 : decide (32 < l0.length) = true := decide_eq_true (by omega)
    clear c2
    simp only [Option.some.injEq, Prod.mk.injEq] at H
    obtain ⟨rfl, rfl⟩ := H
    go_enter Try.func11, Try.ntmps11
    go_wp2
    repeat (go_quiet (fail); try go_wp2)
    go_ret2
    exact ⟨_, by first | rfl | (simp [errW_none, errW_some] <;> rfl) | (simp [*, errW_none, errW_some] <;> rfl), by first | exact Kd.R_nil _ _ _ _ _ | exact Kd.N_nil _ _ _ _ _ | exact Kd.V_nil _ _ _ _ _ | exact Kd.Q_nil _ _ _ _ _ | exact Kd.S_nil _ _ _ _ _, by repeat (first | (with_reducible first | exact HB.out | apply below_alloc | apply pw_below_drewN | apply below_drew1) | exact HB.out)⟩
  · rw [if_neg c2] at H
    have c2b0 : decide (32 < (l0.length : Int)) = false := decide_eq_false c2
    have c2b1 : decide (32 < l0.length) = false := decide_eq_false (by omega)
    clear c2
    have H' := Aside0.mk H
    clear H
    go_enter Try.func11, Try.ntmps11
    go_wp2
    repeat (go_quiet (fail); try go_wp2)
    go_loopg [4] k (fun kq v4 w' => ∃ (x4_1 : Int), v4 = .int .i64 x4_1 ∧ Aside0 (crierref05_New.l0 kq l0 x4_1 = some (r1, r2)) ∧ Aside0 (kq ≤ k) ∧ Aside0 (Below w.heap.size w w'))
    case atStart => exact ⟨(0), (by first | rfl | (simp; done) | (simp [*]; done) | (simp; exact (IntWalk.wrap64_in _ (by decide)).symm)), H', ⟨Nat.le_refl _⟩, ⟨by repeat (first | (with_reducible first | exact HB.out | apply below_alloc | apply pw_below_drewN | apply below_drew1) | exact HB.out)⟩⟩
    case round =>
      clear H'
      try clear c1
      try clear c2
      try clear c2b0
      try clear c2b1
      try clear p2
      obtain ⟨x4_1, rfl, HA, HK1, HB⟩ := hrel
      cases gk with
      | zero => exact absurd HA.out (by simp [crierref05_New.l0])
      | succ k1 =>
        have H := HA.out
        clear HA
        simp only [crierref05_New.l0] at H
        by_cases c3 : x4_1 < (l0.length : Int)
        · rw [if_pos c3] at H
          have c3b0 : decide (x4_1 < (l0.length : Int)) = true := decide_eq_true c3
          clear c3
          by_cases c4 : 0 ≤ x4_1
          · rw [if_pos c4] at H
            have c4b0 : decide (0 ≤ x4_1) = true := decide_eq_true c4
            clear c4
            replace H := Option.bind_eq_some_iff.mp H
            obtain ⟨t111, A50, H⟩ := H
            replace H : (if t111 = true then (crierref05_New.l0 k1 l0 (wrap64 (x4_1 + 1))) else (some (([] : List (S33)), 1))) = some (r1, r2) := H
            have A5 := Aside0.mk A50
            clear A50
            by_cases c6 : t111 = true
            · subst c6
              have H1 : (crierref05_New.l0 k1 l0 (wrap64 (x4_1 + 1))) = some (r1, r2) := by first | (rw [if_pos rfl] at H; exact H) | (rw [if_pos trivial] at H; exact H)
              clear H
              have H := H1
              clear H1
              have H' := Aside0.mk H
              clear H
              have p110 : 0 ≤ (x4_1 : Int) := of_decide_eq_true (by first | (with_reducible assumption) | assumption)
              have q110 : x4_1 < (l0.length : Int) := of_decide_eq_true (by first | (with_reducible assumption) | assumption)
              obtain ⟨ad110, e110, hx110_0, hx110_1, hx110_2, hx110_3⟩ := at_T33 HR0.out x4_1 p110 q110
              cases e110
              replace hx110_0 := (HB.out.cell (World.block_lt_of_cell? w _ hx110_0)).trans hx110_0
              replace hx110_1 := (HB.out.cell (World.block_lt_of_cell? w _ hx110_1)).trans hx110_1
              replace hx110_2 := (HB.out.cell (World.block_lt_of_cell? w _ hx110_2)).trans hx110_2
              replace hx110_3 := (HB.out.cell (World.block_lt_of_cell? w _ hx110_3)).trans hx110_3
              replace p110 := eq_true p110
              replace q110 := eq_true q110
              go_wp2_with (first | (go_at_call 27; (with_reducible refine (crierref05_Right.calls ((rd_T33 l0 x4_1).f0) ((rd_T33 l0 x4_1).f1) ((rd_T33 l0 x4_1).f2) ((rd_T33 l0 x4_1).f3) true _ A5.out).mono ?_); rintro e w7 ⟨rfl, hb⟩; have n0_ := Aside0.mk (below_step (by repeat (first | (with_reducible first | exact HB.out | apply below_alloc | apply pw_below_drewN | apply below_drew1) | exact HB.out)) hb); clear HB; have HB := n0_; clear n0_; (try clear hb); (try clear hb2); (try clear hk); (try clear hi)))
              repeat (go_quiet (first | (go_at_call 27; (with_reducible refine (crierref05_Right.calls ((rd_T33 l0 x4_1).f0) ((rd_T33 l0 x4_1).f1) ((rd_T33 l0 x4_1).f2) ((rd_T33 l0 x4_1).f3) true _ A5.out).mono ?_); rintro e w7 ⟨rfl, hb⟩; have n0_ := Aside0.mk (below_step (by repeat (first | (with_reducible first | exact HB.out | apply below_alloc | apply pw_below_drewN | apply below_drew1) | exact HB.out)) hb); clear HB; have HB := n0_; clear n0_; (try clear hb); (try clear hb2); (try clear hk); (try clear hi))); try go_wp2_with (first | (go_at_call 27; (with_reducible refine (crierref05_Right.calls ((rd_T33 l0 x4_1).f0) ((rd_T33 l0 x4_1).f1) ((rd_T33 l0 x4_1).f2) ((rd_T33 l0 x4_1).f3) true _ A5.out).mono ?_); rintro e w7 ⟨rfl, hb⟩; have n0_ := Aside0.mk (below_step (by repeat (first | (with_reducible first | exact HB.out | apply below_alloc | apply pw_below_drewN | apply below_drew1) | exact HB.out)) hb); clear HB; have HB := n0_; clear n0_; (try clear hb); (try clear hb2); (try clear hk); (try clear hi))))
              go_roundg k1
              case measure => have := HK1.out; omega
              case rel => exact ⟨(wrap64 (x4_1 + 1)), (by first | rfl | (simp; done) | (simp [*]; done) | (simp; exact (IntWalk.wrap64_in _ (by decide)).symm)), H', ⟨by have := HK1.out; omega⟩, ⟨by repeat (first | (with_reducible first | exact HB.out | apply below_alloc | apply pw_below_drewN | apply below_drew1) | exact HB.out)⟩⟩
            · replace c6 := Bool.eq_false_iff.mpr c6
              subst c6
              have H1 : (some (([] : List (S33)), 1)) = some (r1, r2) := by rw [if_neg (show ¬ (false = true) by decide)] at H; exact H
              clear H
              have H := H1
              clear H1
              simp only [Option.some.injEq, Prod.mk.injEq] at H
              obtain ⟨rfl, rfl⟩ := H
              have p110 : 0 ≤ (x4_1 : Int) := of_decide_eq_true (by first | (with_reducible assumption) | assumption)
              have q110 : x4_1 < (l0.length : Int) := of_decide_eq_true (by first | (with_reducible assumption) | assumption)
              obtain ⟨ad110, e110, hx110_0, hx110_1, hx110_2, hx110_3⟩ := at_T33 HR0.out x4_1 p110 q110
              cases e110
              replace hx110_0 := (HB.out.cell (World.block_lt_of_cell? w _ hx110_0)).trans hx110_0
              replace hx110_1 := (HB.out.cell (World.block_lt_of_cell? w _ hx110_1)).trans hx110_1
              replace hx110_2 := (HB.out.cell (World.block_lt_of_cell? w _ hx110_2)).trans hx110_2
              replace hx110_3 := (HB.out.cell (World.block_lt_of_cell? w _ hx110_3)).trans hx110_3
              replace p110 := eq_true p110
              replace q110 := eq_true q110
              go_wp2_with (first | (go_at_call 27; (with_reducible refine (crierref05_Right.calls ((rd_T33 l0 x4_1).f0) ((rd_T33 l0 x4_1).f1) ((rd_T33 l0 x4_1).f2) ((rd_T33 l0 x4_1).f3) false _ A5.out).mono ?_); rintro e w8 ⟨rfl, hb⟩; have n0_ := Aside0.mk (below_step (by repeat (first | (with_reducible first | exact HB.out | apply below_alloc | apply pw_below_drewN | apply below_drew1) | exact HB.out)) hb); clear HB; have HB := n0_; clear n0_; (try clear hb); (try clear hb2); (try clear hk); (try clear hi)))
              repeat (go_quiet (first | (go_at_call 27; (with_reducible refine (crierref05_Right.calls ((rd_T33 l0 x4_1).f0) ((rd_T33 l0 x4_1).f1) ((rd_T33 l0 x4_1).f2) ((rd_T33 l0 x4_1).f3) false _ A5.out).mono ?_); rintro e w8 ⟨rfl, hb⟩; have n0_ := Aside0.mk (below_step (by repeat (first | (with_reducible first | exact HB.out | apply below_alloc | apply pw_below_drewN | apply below_drew1) | exact HB.out)) hb); clear HB; have HB := n0_; clear n0_; (try clear hb); (try clear hb2); (try clear hk); (try clear hi))); try go_wp2_with (first | (go_at_call 27; (with_reducible refine (crierref05_Right.calls ((rd_T33 l0 x4_1).f0) ((rd_T33 l0 x4_1).f1) ((rd_T33 l0 x4_1).f2) ((rd_T33 l0 x4_1).f3) false _ A5.out).mono ?_); rintro e w8 ⟨rfl, hb⟩; have n0_ := Aside0.mk (below_step (by repeat (first | (with_reducible first | exact HB.out | apply below_alloc | apply pw_below_drewN | apply below_drew1) | exact HB.out)) hb); clear HB; have HB := n0_; clear n0_; (try clear hb); (try clear hb2); (try clear hk); (try clear hi))))
              go_ret2
              exact ⟨_, by first | rfl | (simp [errW_none, errW_some] <;> rfl) | (simp [*, errW_none, errW_some] <;> rfl), by first | exact Kd.R_nil _ _ _ _ _ | exact Kd.N_nil _ _ _ _ _ | exact Kd.V_nil _ _ _ _ _ | exact Kd.Q_nil _ _ _ _ _ | exact Kd.S_nil _ _ _ _ _, by repeat (first | (with_reducible first | exact HB.out | apply below_alloc | apply pw_below_drewN | apply below_drew1) | exact HB.out)⟩
          · rw [if_neg c4] at H
            exact absurd H (by simp)
        · rw [if_neg c3] at H
          have c3b0 : decide (x4_1 < (l0.length : Int)) = false := decide_eq_false c3
          clear c3
          have H' := Aside0.mk H
          clear H
          go_wp2
          repeat (go_quiet (fail); try go_wp2)
          go_loopg [5, 6] k1 (fun kq v5 v6 w' => ∃ (x5_2 : List (S33)) (x6_2 : Int), v6 = .int .i64 x6_2 ∧ Aside0 (crierref05_New.l1 kq l0 x5_2 x6_2 = some (r1, r2)) ∧ Aside0 (kq ≤ k1) ∧ Aside0 (Kd.R k33 33 w' w.heap.size (fun _ => True) v5 x5_2) ∧ Aside0 (Below w.heap.size w w'))
          case atStart => exact ⟨(([] : List (S33))), (0), (by first | rfl | (simp; done) | (simp [*]; done) | (simp; exact (IntWalk.wrap64_in _ (by decide)).symm)), H', ⟨Nat.le_refl _⟩, ⟨by first | exact Kd.R_nil _ _ _ _ _ | exact Kd.N_nil _ _ _ _ _ | exact Kd.V_nil _ _ _ _ _ | exact Kd.Q_nil _ _ _ _ _ | exact Kd.S_nil _ _ _ _ _⟩, ⟨by repeat (first | (with_reducible first | exact HB.out | apply below_alloc | apply pw_below_drewN | apply below_drew1) | exact HB.out)⟩⟩
          case round =>
            clear H'
            try clear c1
            try clear p1
            try clear q1
            try clear hx1
            try clear c2
            try clear c2b0
            try clear c2b1
            try clear p2
            try clear c3
            try clear c3b0
            try clear c4
            try clear c4b0
            try clear c6
            try clear p6
            try clear hx110_0
            try clear hx110_1
            try clear hx110_2
            try clear hx110_3
            try clear p110
            try clear p2
            try clear q110
            obtain ⟨x5_2, x6_2, rfl, HA, HK2, HO_5, HB⟩ := hrel
            cases gk with
            | zero => exact absurd HA.out (by simp [crierref05_New.l1])
            | succ k2 =>
              have H := HA.out
              clear HA
              simp only [crierref05_New.l1] at H
              by_cases c9 : x6_2 < (l0.length : Int)
              · rw [if_pos c9] at H
                have c9b0 : decide (x6_2 < (l0.length : Int)) = true := decide_eq_true c9
                clear c9
                have H' := Aside0.mk H
                clear H
                go_wp2
                repeat (go_quiet (fail); try go_wp2)
                go_loopg [7, 8, 9] k2 (fun kq v7 v8 v9 w' => ∃ (x7_3 : List (S33)) (x8_3 : Bool) (x9_3 : Int), v8 = .bool x8_3 ∧ v9 = .int .i64 x9_3 ∧ Aside0 (crierref05_New.l2 kq l0 x5_2 x6_2 x7_3 x8_3 x9_3 = some (r1, r2)) ∧ Aside0 (kq ≤ k2) ∧ Aside0 (Kd.R k33 33 w' w.heap.size (fun k_ => some k_ ≠ (v7 : Value).ownBlock) u5 x5_2) ∧ Aside0 (Kd.R k33 33 w' w.heap.size (fun k_ => some k_ ≠ (u5 : Value).ownBlock) v7 x7_3) ∧ Aside0 (Below w.heap.size w w'))
                case atStart => exact ⟨(([] : List (S33))), (false), (0), (by first | rfl | (simp; done) | (simp [*]; done) | (simp; exact (IntWalk.wrap64_in _ (by decide)).symm)), (by first | rfl | (simp; done) | (simp [*]; done) | (simp; exact (IntWalk.wrap64_in _ (by decide)).symm)), H', ⟨Nat.le_refl _⟩, ⟨by (with_reducible repeat (first | apply Kd.R_alloc | apply Kd.R_drewN | apply Kd.R_drew)); exact Kd.R_mono HO_5.out (fun _ hk => (by simp [Value.ownBlock]))⟩, ⟨by first | exact Kd.R_nil _ _ _ _ _ | exact Kd.N_nil _ _ _ _ _ | exact Kd.V_nil _ _ _ _ _ | exact Kd.Q_nil _ _ _ _ _ | exact Kd.S_nil _ _ _ _ _⟩, ⟨by repeat (first | (with_reducible first | exact HB.out | apply below_alloc | apply pw_below_drewN | apply below_drew1) | exact HB.out)⟩⟩
                case round =>
                  clear H'
                  try clear c1
                  try clear p1
                  try clear q1
                  try clear hx1
                  try clear c2
                  try clear c2b0
                  try clear c2b1
                  try clear p2
                  try clear c3
                  try clear c3b0
                  try clear c4
                  try clear c4b0
                  try clear c6
                  try clear p6
                  try clear c9
                  try clear c9b0
                  try clear hx110_0
                  try clear hx110_1
                  try clear hx110_2
                  try clear hx110_3
                  try clear p1
                  try clear p110
                  try clear p2
                  try clear p6
                  try clear q1
                  try clear q110
                  obtain ⟨x7_3, x8_3, x9_3, rfl, rfl, HA, HK3, HO_5, HO_7, HB⟩ := hrel
                  cases gk with
                  | zero => exact absurd HA.out (by simp [crierref05_New.l2])
                  | succ k3 =>
                    have H := HA.out
                    clear HA
                    simp only [crierref05_New.l2] at H
                    by_cases c10 : x9_3 < (x5_2.length : Int)
                    · rw [if_pos c10] at H
                      have c10b0 : decide (x9_3 < (x5_2.length : Int)) = true := decide_eq_true c10
                      clear c10
                      by_cases c11 : x8_3 = true
                      · subst c11
                        have H1 : (if 0 ≤ x9_3 then (if x7_3.length < 4398046511104 then (crierref05_New.l2 k3 l0 x5_2 x6_2 (x7_3 ++ [(⟨(rd_T33 x5_2 x9_3).f0, (rd_T33 x5_2 x9_3).f1, (rd_T33 x5_2 x9_3).f2, (rd_T33 x5_2 x9_3).f3⟩ : S33)]) true (wrap64 (x9_3 + 1))) else (none)) else (none)) = some (r1, r2) := by first | (rw [if_pos rfl] at H; exact H) | (rw [if_pos trivial] at H; exact H)
                        clear H
                        have H := H1
                        clear H1
                        by_cases c12 : 0 ≤ x9_3
                        · rw [if_pos c12] at H
                          have c12b0 : decide (0 ≤ x9_3) = true := decide_eq_true c12
                          clear c12
                          by_cases c13 : x7_3.length < 4398046511104
                          · rw [if_pos c13] at H
                            have LMc13 := Aside0.mk c13
                            clear c13
                            obtain ⟨y113, hy113⟩ : ∃ y_ : List (S33), y_ = (x7_3 ++ [(⟨(rd_T33 x5_2 x9_3).f0, (rd_T33 x5_2 x9_3).f1, (rd_T33 x5_2 x9_3).f2, (rd_T33 x5_2 x9_3).f3⟩ : S33)]) := ⟨_, rfl⟩
                            replace H : (crierref05_New.l2 k3 l0 x5_2 x6_2 y113 true (wrap64 (x9_3 + 1))) = some (r1, r2) := by first | (rw [hy113]; with_reducible exact H) | (have H2_ := (Option.bind_some _ _).symm.trans H; rw [hy113]; with_reducible exact H2_) | (have H2_ := (Option.bind_some _ _).symm.trans H; with_reducible exact H2_) | with_reducible exact H | (rw [hy113]; exact H) | exact H
                            have Ny113 := Aside0.mk hy113
                            clear hy113
                            have H' := Aside0.mk H
                            clear H
                            obtain ⟨Ao14, co14, eo14⟩ := Kd.R_slice HO_5.out
                            subst eo14
                            have p112 : 0 ≤ (x9_3 : Int) := of_decide_eq_true (by first | (with_reducible assumption) | assumption)
                            have q112 : x9_3 < (x5_2.length : Int) := of_decide_eq_true (by first | (with_reducible assumption) | assumption)
                            obtain ⟨ad112, e112, hx112_0, hx112_1, hx112_2, hx112_3⟩ := at_T33 (Kd.R_reads' HO_5.out).2.2 x9_3 p112 q112
                            cases e112
                            replace p112 := eq_true p112
                            replace q112 := eq_true q112
                            go_wp2_with (first | ((with_reducible refine gate_builtin (b := .append) (xs := #[.tmp 61, .tmp 66]) rfl ?_); at_builtin; refine Kd.R_append k33 (w0 := w) w.heap.size rfl (.tmp 61) (.tmp 66) 22 33 (.agg #[(.int .i64 0), (.int .i64 0), (.int .i64 0), (.int .i64 0)]) 32 rfl Try.underlying22 info33 rfl (by decide) (by omega) u7 x7_3 (⟨(rd_T33 x5_2 x9_3).f0, (rd_T33 x5_2 x9_3).f1, (rd_T33 x5_2 x9_3).f2, (rd_T33 x5_2 x9_3).f3⟩ : S33) [.int .i64 ((rd_T33 x5_2 x9_3).f0), .int .i64 ((rd_T33 x5_2 x9_3).f1), .int .i64 ((rd_T33 x5_2 x9_3).f2), .int .i64 ((rd_T33 x5_2 x9_3).f3)] (fun k_ => some k_ ≠ (.slice (some ad112) x5_2.length co14 : Value).ownBlock) (fun _ => False) rfl rfl ?aP (fun _ hk => hk.elim) ?aF ?aO ?aB ?aS ?aL ?_; (case aP => exact k33_mkM _ _ _ (⟨(rd_T33 x5_2 x9_3).f0, (rd_T33 x5_2 x9_3).f1, (rd_T33 x5_2 x9_3).f2, (rd_T33 x5_2 x9_3).f3⟩ : S33)); (case aB => exact (by repeat (first | (with_reducible first | exact HB.out | apply below_alloc | apply pw_below_drewN | apply below_drew1) | exact HB.out))); (case aF => exact (fun k_ hk => Kd.fresh' (Kd.R_lt (by (with_reducible repeat (first | apply Kd.R_alloc | apply Kd.R_drewN | apply Kd.R_drew)); exact HO_5.out)) k_ hk)); (case aO => exact (by (with_reducible repeat (first | apply Kd.R_alloc | apply Kd.R_drewN | apply Kd.R_drew)); exact HO_7.out)); (case aS => exact (below_size (by repeat (first | (with_reducible first | exact HB.out | apply below_alloc | apply pw_below_drewN | apply below_drew1) | exact HB.out)))); (case aL => have := LMc13.out; omega); intro v114 w15 ho hb hg hat; rw [← Ny113.out] at ho; have n0_ := Aside0.mk (Kd.R_after (ok := (fun _ => True)) (by (with_reducible repeat (first | apply Kd.R_alloc | apply Kd.R_drewN | apply Kd.R_drew)); exact Kd.R_mono HO_5.out (fun _ hk => ⟨trivial, hk⟩)) hg hat); have n1_ := Aside0.mk (hb); have n2_ := Aside0.mk (ho); clear HO_5; clear HB; clear HO_7; have HO_5 := n0_; have HB := n1_; have HO115 := n2_; clear n0_ n1_ n2_; clear ho hb hg hat))
                            repeat (go_quiet (first | ((with_reducible refine gate_builtin (b := .append) (xs := #[.tmp 61, .tmp 66]) rfl ?_); at_builtin; refine Kd.R_append k33 (w0 := w) w.heap.size rfl (.tmp 61) (.tmp 66) 22 33 (.agg #[(.int .i64 0), (.int .i64 0), (.int .i64 0), (.int .i64 0)]) 32 rfl Try.underlying22 info33 rfl (by decide) (by omega) u7 x7_3 (⟨(rd_T33 x5_2 x9_3).f0, (rd_T33 x5_2 x9_3).f1, (rd_T33 x5_2 x9_3).f2, (rd_T33 x5_2 x9_3).f3⟩ : S33) [.int .i64 ((rd_T33 x5_2 x9_3).f0), .int .i64 ((rd_T33 x5_2 x9_3).f1), .int .i64 ((rd_T33 x5_2 x9_3).f2), .int .i64 ((rd_T33 x5_2 x9_3).f3)] (fun k_ => some k_ ≠ (.slice (some ad112) x5_2.length co14 : Value).ownBlock) (fun _ => False) rfl rfl ?aP (fun _ hk => hk.elim) ?aF ?aO ?aB ?aS ?aL ?_; (case aP => exact k33_mkM _ _ _ (⟨(rd_T33 x5_2 x9_3).f0, (rd_T33 x5_2 x9_3).f1, (rd_T33 x5_2 x9_3).f2, (rd_T33 x5_2 x9_3).f3⟩ : S33)); (case aB => exact (by repeat (first | (with_reducible first | exact HB.out | apply below_alloc | apply pw_below_drewN | apply below_drew1) | exact HB.out))); (case aF => exact (fun k_ hk => Kd.fresh' (Kd.R_lt (by (with_reducible repeat (first | apply Kd.R_alloc | apply Kd.R_drewN | apply Kd.R_drew)); exact HO_5.out)) k_ hk)); (case aO => exact (by (with_reducible repeat (first | apply Kd.R_alloc | apply Kd.R_drewN | apply Kd.R_drew)); exact HO_7.out)); (case aS => exact (below_size (by repeat (first | (with_reducible first | exact HB.out | apply below_alloc | apply pw_below_drewN | apply below_drew1) | exact HB.out)))); (case aL => have := LMc13.out; omega); intro v114 w15 ho hb hg hat; rw [← Ny113.out] at ho; have n0_ := Aside0.mk (Kd.R_after (ok := (fun _ => True)) (by (with_reducible repeat (first | apply Kd.R_alloc | apply Kd.R_drewN | apply Kd.R_drew)); exact Kd.R_mono HO_5.out (fun _ hk => ⟨trivial, hk⟩)) hg hat); have n1_ := Aside0.mk (hb); have n2_ := Aside0.mk (ho); clear HO_5; clear HB; clear HO_7; have HO_5 := n0_; have HB := n1_; have HO115 := n2_; clear n0_ n1_ n2_; clear ho hb hg hat)); try go_wp2_with (first | ((with_reducible refine gate_builtin (b := .append) (xs := #[.tmp 61, .tmp 66]) rfl ?_); at_builtin; refine Kd.R_append k33 (w0 := w) w.heap.size rfl (.tmp 61) (.tmp 66) 22 33 (.agg #[(.int .i64 0), (.int .i64 0), (.int .i64 0), (.int .i64 0)]) 32 rfl Try.underlying22 info33 rfl (by decide) (by omega) u7 x7_3 (⟨(rd_T33 x5_2 x9_3).f0, (rd_T33 x5_2 x9_3).f1, (rd_T33 x5_2 x9_3).f2, (rd_T33 x5_2 x9_3).f3⟩ : S33) [.int .i64 ((rd_T33 x5_2 x9_3).f0), .int .i64 ((rd_T33 x5_2 x9_3).f1), .int .i64 ((rd_T33 x5_2 x9_3).f2), .int .i64 ((rd_T33 x5_2 x9_3).f3)] (fun k_ => some k_ ≠ (.slice (some ad112) x5_2.length co14 : Value).ownBlock) (fun _ => False) rfl rfl ?aP (fun _ hk => hk.elim) ?aF ?aO ?aB ?aS ?aL ?_; (case aP => exact k33_mkM _ _ _ (⟨(rd_T33 x5_2 x9_3).f0, (rd_T33 x5_2 x9_3).f1, (rd_T33 x5_2 x9_3).f2, (rd_T33 x5_2 x9_3).f3⟩ : S33)); (case aB => exact (by repeat (first | (with_reducible first | exact HB.out | apply below_alloc | apply pw_below_drewN | apply below_drew1) | exact HB.out))); (case aF => exact (fun k_ hk => Kd.fresh' (Kd.R_lt (by (with_reducible repeat (first | apply Kd.R_alloc | apply Kd.R_drewN | apply Kd.R_drew)); exact HO_5.out)) k_ hk)); (case aO => exact (by (with_reducible repeat (first | apply Kd.R_alloc | apply Kd.R_drewN | apply Kd.R_drew)); exact HO_7.out)); (case aS => exact (below_size (by repeat (first | (with_reducible first | exact HB.out | apply below_alloc | apply pw_below_drewN | apply below_drew1) | exact HB.out)))); (case aL => have := LMc13.out; omega); intro v114 w15 ho hb hg hat; rw [← Ny113.out] at ho; have n0_ := Aside0.mk (Kd.R_after (ok := (fun _ => True)) (by (with_reducible repeat (first | apply Kd.R_alloc | apply Kd.R_drewN | apply Kd.R_drew)); exact Kd.R_mono HO_5.out (fun _ hk => ⟨trivial, hk⟩)) hg hat); have n1_ := Aside0.mk (hb); have n2_ := Aside0.mk (ho); clear HO_5; clear HB; clear HO_7; have HO_5 := n0_; have HB := n1_; have HO115 := n2_; clear n0_ n1_ n2_; clear ho hb hg hat)))
                            go_roundg k3
                            case measure => have := HK1.out; have := HK2.out; have := HK3.out; omega
                            case rel => exact ⟨(y113), (true), (wrap64 (x9_3 + 1)), (by first | rfl | (simp; done) | (simp [*]; done) | (simp; exact (IntWalk.wrap64_in _ (by decide)).symm)), (by first | rfl | (simp; done) | (simp [*]; done) | (simp; exact (IntWalk.wrap64_in _ (by decide)).symm)), H', ⟨by have := HK1.out; have := HK2.out; have := HK3.out; omega⟩, ⟨by (with_reducible repeat (first | apply Kd.R_alloc | apply Kd.R_drewN | apply Kd.R_drew)); exact Kd.R_mono HO_5.out (fun _ hk => hk.2)⟩, ⟨by (with_reducible repeat (first | apply Kd.R_alloc | apply Kd.R_drewN | apply Kd.R_drew)); exact HO115.out⟩, ⟨by repeat (first | (with_reducible first | exact HB.out | apply below_alloc | apply pw_below_drewN | apply below_drew1) | exact HB.out)⟩⟩
                          · rw [if_neg c13] at H
                            exact absurd H (by simp)
                        · rw [if_neg c12] at H
                          exact absurd H (by simp)
                      · replace c11 := Bool.eq_false_iff.mpr c11
                        subst c11
                        have H1 : (if 0 ≤ x6_2 then (if x6_2 < (l0.length : Int) then (if 0 ≤ x9_3 then (if ((rd_T33 l0 x6_2).f0) < ((rd_T33 x5_2 x9_3).f0) then (if x7_3.length < 4398046511104 then ((some (x7_3 ++ [(⟨(rd_T33 l0 x6_2).f0, (rd_T33 l0 x6_2).f1, (rd_T33 l0 x6_2).f2, (rd_T33 l0 x6_2).f3⟩ : S33)] : List (S33))).bind fun y119 => (if y119.length < 4398046511104 then (crierref05_New.l2 k3 l0 x5_2 x6_2 (y119 ++ [(⟨(rd_T33 x5_2 x9_3).f0, (rd_T33 x5_2 x9_3).f1, (rd_T33 x5_2 x9_3).f2, (rd_T33 x5_2 x9_3).f3⟩ : S33)]) true (wrap64 (x9_3 + 1))) else (none))) else (none)) else (if x7_3.length < 4398046511104 then (crierref05_New.l2 k3 l0 x5_2 x6_2 (x7_3 ++ [(⟨(rd_T33 x5_2 x9_3).f0, (rd_T33 x5_2 x9_3).f1, (rd_T33 x5_2 x9_3).f2, (rd_T33 x5_2 x9_3).f3⟩ : S33)]) false (wrap64 (x9_3 + 1))) else (none))) else (none)) else (none)) else (none)) = some (r1, r2) := by rw [if_neg (show ¬ (false = true) by decide)] at H; exact H
                        clear H
                        have H := H1
                        clear H1
                        by_cases c16 : 0 ≤ x6_2
                        · rw [if_pos c16] at H
                          have c16b0 : decide (0 ≤ x6_2) = true := decide_eq_true c16
                          clear c16
                          by_cases c17 : x6_2 < (l0.length : Int)
                          · rw [if_pos c17] at H
                            have c17b0 : decide (x6_2 < (l0.length : Int)) = true := decide_eq_true c17
                            clear c17
                            by_cases c18 : 0 ≤ x9_3
                            · rw [if_pos c18] at H
                              have c18b0 : decide (0 ≤ x9_3) = true := decide_eq_true c18
                              clear c18
                              by_cases c19 : ((rd_T33 l0 x6_2).f0) < ((rd_T33 x5_2 x9_3).f0)
                              · rw [if_pos c19] at H
                                have c19b0 : decide (((rd_T33 l0 x6_2).f0) < ((rd_T33 x5_2 x9_3).f0)) = true := decide_eq_true c19
                                clear c19
                                by_cases c20 : x7_3.length < 4398046511104
                                · rw [if_pos c20] at H
                                  have LMc20 := Aside0.mk c20
                                  clear c20
                                  obtain ⟨y119, hy119⟩ : ∃ y_ : List (S33), y_ = (x7_3 ++ [(⟨(rd_T33 l0 x6_2).f0, (rd_T33 l0 x6_2).f1, (rd_T33 l0 x6_2).f2, (rd_T33 l0 x6_2).f3⟩ : S33)]) := ⟨_, rfl⟩
                                  replace H : (if y119.length < 4398046511104 then (crierref05_New.l2 k3 l0 x5_2 x6_2 (y119 ++ [(⟨(rd_T33 x5_2 x9_3).f0, (rd_T33 x5_2 x9_3).f1, (rd_T33 x5_2 x9_3).f2, (rd_T33 x5_2 x9_3).f3⟩ : S33)]) true (wrap64 (x9_3 + 1))) else (none)) = some (r1, r2) := by first | (rw [hy119]; with_reducible exact H) | (have H2_ := (Option.bind_some _ _).symm.trans H; rw [hy119]; with_reducible exact H2_) | (have H2_ := (Option.bind_some _ _).symm.trans H; with_reducible exact H2_) | with_reducible exact H | (rw [hy119]; exact H) | exact H
                                  have Ny119 := Aside0.mk hy119
                                  clear hy119
                                  by_cases c21 : y119.length < 4398046511104
                                  · rw [if_pos c21] at H
                                    have LMc21 := Aside0.mk c21
                                    clear c21
                                    obtain ⟨y123, hy123⟩ : ∃ y_ : List (S33), y_ = (y119 ++ [(⟨(rd_T33 x5_2 x9_3).f0, (rd_T33 x5_2 x9_3).f1, (rd_T33 x5_2 x9_3).f2, (rd_T33 x5_2 x9_3).f3⟩ : S33)]) := ⟨_, rfl⟩
                                    replace H : (crierref05_New.l2 k3 l0 x5_2 x6_2 y123 true (wrap64 (x9_3 + 1))) = some (r1, r2) := by first | (rw [hy123]; with_reducible exact H) | (have H2_ := (Option.bind_some _ _).symm.trans H; rw [hy123]; with_reducible exact H2_) | (have H2_ := (Option.bind_some _ _).symm.trans H; with_reducible exact H2_) | with_reducible exact H | (rw [hy123]; exact H) | exact H
                                    have Ny123 := Aside0.mk hy123
                                    clear hy123
                                    have H' := Aside0.mk H
                                    clear H
                                    obtain ⟨Ao22, co22, eo22⟩ := Kd.R_slice HO_5.out
                                    subst eo22
                                    have p116 : 0 ≤ (x6_2 : Int) := of_decide_eq_true (by first | (with_reducible assumption) | assumption)
                                    have q116 : x6_2 < (l0.length : Int) := of_decide_eq_true (by first | (with_reducible assumption) | assumption)
                                    obtain ⟨ad116, e116, hx116_0, hx116_1, hx116_2, hx116_3⟩ := at_T33 HR0.out x6_2 p116 q116
                                    cases e116
                                    replace hx116_0 := (HB.out.cell (World.block_lt_of_cell? w _ hx116_0)).trans hx116_0
                                    replace hx116_1 := (HB.out.cell (World.block_lt_of_cell? w _ hx116_1)).trans hx116_1
                                    replace hx116_2 := (HB.out.cell (World.block_lt_of_cell? w _ hx116_2)).trans hx116_2
                                    replace hx116_3 := (HB.out.cell (World.block_lt_of_cell? w _ hx116_3)).trans hx116_3
                                    replace p116 := eq_true p116
                                    replace q116 := eq_true q116
                                    have p117 : 0 ≤ (x9_3 : Int) := of_decide_eq_true (by first | (with_reducible assumption) | assumption)
                                    have q117 : x9_3 < (x5_2.length : Int) := of_decide_eq_true (by first | (with_reducible assumption) | assumption)
                                    obtain ⟨ad117, e117, hx117_0, hx117_1, hx117_2, hx117_3⟩ := at_T33 (Kd.R_reads' HO_5.out).2.2 x9_3 p117 q117
                                    cases e117
                                    replace p117 := eq_true p117
                                    replace q117 := eq_true q117
                                    have p118 : 0 ≤ (x6_2 : Int) := of_decide_eq_true (by first | (with_reducible assumption) | assumption)
                                    have q118 : x6_2 < (l0.length : Int) := of_decide_eq_true (by first | (with_reducible assumption) | assumption)
                                    obtain ⟨ad118, e118, hx118_0, hx118_1, hx118_2, hx118_3⟩ := at_T33 HR0.out x6_2 p118 q118
                                    obtain rfl : ad116 = ad118 := (by injection e118)
                                    replace hx118_0 := (HB.out.cell (World.block_lt_of_cell? w _ hx118_0)).trans hx118_0
                                    replace hx118_1 := (HB.out.cell (World.block_lt_of_cell? w _ hx118_1)).trans hx118_1
                                    replace hx118_2 := (HB.out.cell (World.block_lt_of_cell? w _ hx118_2)).trans hx118_2
                                    replace hx118_3 := (HB.out.cell (World.block_lt_of_cell? w _ hx118_3)).trans hx118_3
                                    replace p118 := eq_true p118
                                    replace q118 := eq_true q118
                                    go_wp2_with (first | ((with_reducible refine gate_builtin (b := .append) (xs := #[.tmp 54, .tmp 59]) rfl ?_); at_builtin; refine Kd.R_append k33 (w0 := w) w.heap.size rfl (.tmp 54) (.tmp 59) 22 33 (.agg #[(.int .i64 0), (.int .i64 0), (.int .i64 0), (.int .i64 0)]) 32 rfl Try.underlying22 info33 rfl (by decide) (by omega) u7 x7_3 (⟨(rd_T33 l0 x6_2).f0, (rd_T33 l0 x6_2).f1, (rd_T33 l0 x6_2).f2, (rd_T33 l0 x6_2).f3⟩ : S33) [.int .i64 ((rd_T33 l0 x6_2).f0), .int .i64 ((rd_T33 l0 x6_2).f1), .int .i64 ((rd_T33 l0 x6_2).f2), .int .i64 ((rd_T33 l0 x6_2).f3)] (fun k_ => some k_ ≠ (.slice (some ad117) x5_2.length co22 : Value).ownBlock) (fun _ => False) rfl rfl ?aP (fun _ hk => hk.elim) ?aF ?aO ?aB ?aS ?aL ?_; (case aP => exact k33_mkM _ _ _ (⟨(rd_T33 l0 x6_2).f0, (rd_T33 l0 x6_2).f1, (rd_T33 l0 x6_2).f2, (rd_T33 l0 x6_2).f3⟩ : S33)); (case aB => exact (by repeat (first | (with_reducible first | exact HB.out | apply below_alloc | apply pw_below_drewN | apply below_drew1) | exact HB.out))); (case aF => exact (fun k_ hk => Kd.fresh' (Kd.R_lt (by (with_reducible repeat (first | apply Kd.R_alloc | apply Kd.R_drewN | apply Kd.R_drew)); exact HO_5.out)) k_ hk)); (case aO => exact (by (with_reducible repeat (first | apply Kd.R_alloc | apply Kd.R_drewN | apply Kd.R_drew)); exact HO_7.out)); (case aS => exact (below_size (by repeat (first | (with_reducible first | exact HB.out | apply below_alloc | apply pw_below_drewN | apply below_drew1) | exact HB.out)))); (case aL => have := LMc20.out; omega); intro v120 w23 ho hb hg hat; rw [← Ny119.out] at ho; have n0_ := Aside0.mk (Kd.R_after (ok := (fun _ => True)) (by (with_reducible repeat (first | apply Kd.R_alloc | apply Kd.R_drewN | apply Kd.R_drew)); exact Kd.R_mono HO_5.out (fun _ hk => ⟨trivial, hk⟩)) hg hat); have n1_ := Aside0.mk (hb); have n2_ := Aside0.mk (ho); clear HO_5; clear HB; clear HO_7; have HO_5 := n0_; have HB := n1_; have HO121 := n2_; clear n0_ n1_ n2_; clear ho hb hg hat; have p122 : 0 ≤ (x9_3 : Int) := of_decide_eq_true (by first | (with_reducible assumption) | assumption); have q122 : x9_3 < (x5_2.length : Int) := of_decide_eq_true (by first | (with_reducible assumption) | assumption); obtain ⟨ad122, e122, hx122_0, hx122_1, hx122_2, hx122_3⟩ := at_T33 (Kd.R_reads' HO_5.out).2.2 x9_3 p122 q122; obtain rfl : ad117 = ad122 := (by injection e122); replace p122 := eq_true p122; replace q122 := eq_true q122) | ((with_reducible refine gate_builtin (b := .append) (xs := #[.tmp 61, .tmp 66]) rfl ?_); at_builtin; refine Kd.R_append k33 (w0 := w) w.heap.size rfl (.tmp 61) (.tmp 66) 22 33 (.agg #[(.int .i64 0), (.int .i64 0), (.int .i64 0), (.int .i64 0)]) 32 rfl Try.underlying22 info33 rfl (by decide) (by omega) v120 y119 (⟨(rd_T33 x5_2 x9_3).f0, (rd_T33 x5_2 x9_3).f1, (rd_T33 x5_2 x9_3).f2, (rd_T33 x5_2 x9_3).f3⟩ : S33) [.int .i64 ((rd_T33 x5_2 x9_3).f0), .int .i64 ((rd_T33 x5_2 x9_3).f1), .int .i64 ((rd_T33 x5_2 x9_3).f2), .int .i64 ((rd_T33 x5_2 x9_3).f3)] (fun k_ => some k_ ≠ (.slice (some ad117) x5_2.length co22 : Value).ownBlock) (fun _ => False) rfl rfl ?aP (fun _ hk => hk.elim) ?aF ?aO ?aB ?aS ?aL ?_; (case aP => exact k33_mkM _ _ _ (⟨(rd_T33 x5_2 x9_3).f0, (rd_T33 x5_2 x9_3).f1, (rd_T33 x5_2 x9_3).f2, (rd_T33 x5_2 x9_3).f3⟩ : S33)); (case aB => exact (by repeat (first | (with_reducible first | exact HB.out | apply below_alloc | apply pw_below_drewN | apply below_drew1) | exact HB.out))); (case aF => exact (fun k_ hk => Kd.fresh' (Kd.R_lt (by (with_reducible repeat (first | apply Kd.R_alloc | apply Kd.R_drewN | apply Kd.R_drew)); exact HO_5.out)) k_ hk)); (case aO => exact (by (with_reducible repeat (first | apply Kd.R_alloc | apply Kd.R_drewN | apply Kd.R_drew)); exact HO121.out)); (case aS => exact (below_size (by repeat (first | (with_reducible first | exact HB.out | apply below_alloc | apply pw_below_drewN | apply below_drew1) | exact HB.out)))); (case aL => have := LMc21.out; omega); intro v124 w24 ho hb hg hat; rw [← Ny123.out] at ho; have n0_ := Aside0.mk (Kd.R_after (ok := (fun _ => True)) (by (with_reducible repeat (first | apply Kd.R_alloc | apply Kd.R_drewN | apply Kd.R_drew)); exact HO_5.out) hg hat); have n1_ := Aside0.mk (hb); have n2_ := Aside0.mk (ho); clear HO_5; clear HB; clear HO121; have HO_5 := n0_; have HB := n1_; have HO125 := n2_; clear n0_ n1_ n2_; clear ho hb hg hat))
                                    repeat (go_quiet (first | ((with_reducible refine gate_builtin (b := .append) (xs := #[.tmp 54, .tmp 59]) rfl ?_); at_builtin; refine Kd.R_append k33 (w0 := w) w.heap.size rfl (.tmp 54) (.tmp 59) 22 33 (.agg #[(.int .i64 0), (.int .i64 0), (.int .i64 0), (.int .i64 0)]) 32 rfl Try.underlying22 info33 rfl (by decide) (by omega) u7 x7_3 (⟨(rd_T33 l0 x6_2).f0, (rd_T33 l0 x6_2).f1, (rd_T33 l0 x6_2).f2, (rd_T33 l0 x6_2).f3⟩ : S33) [.int .i64 ((rd_T33 l0 x6_2).f0), .int .i64 ((rd_T33 l0 x6_2).f1), .int .i64 ((rd_T33 l0 x6_2).f2), .int .i64 ((rd_T33 l0 x6_2).f3)] (fun k_ => some k_ ≠ (.slice (some ad117) x5_2.length co22 : Value).ownBlock) (fun _ => False) rfl rfl ?aP (fun _ hk => hk.elim) ?aF ?aO ?aB ?aS ?aL ?_; (case aP => exact k33_mkM _ _ _ (⟨(rd_T33 l0 x6_2).f0, (rd_T33 l0 x6_2).f1, (rd_T33 l0 x6_2).f2, (rd_T33 l0 x6_2).f3⟩ : S33)); (case aB => exact (by repeat (first | (with_reducible first | exact HB.out | apply below_alloc | apply pw_below_drewN | apply below_drew1) | exact HB.out))); (case aF => exact (fun k_ hk => Kd.fresh' (Kd.R_lt (by (with_reducible repeat (first | apply Kd.R_alloc | apply Kd.R_drewN | apply Kd.R_drew)); exact HO_5.out)) k_ hk)); (case aO => exact (by (with_reducible repeat (first | apply Kd.R_alloc | apply Kd.R_drewN | apply Kd.R_drew)); exact HO_7.out)); (case aS => exact (below_size (by repeat (first | (with_reducible first | exact HB.out | apply below_alloc | apply pw_below_drewN | apply below_drew1) | exact HB.out)))); (case aL => have := LMc20.out; omega); intro v120 w23 ho hb hg hat; rw [← Ny119.out] at ho; have n0_ := Aside0.mk (Kd.R_after (ok := (fun _ => True)) (by (with_reducible repeat (first | apply Kd.R_alloc | apply Kd.R_drewN | apply Kd.R_drew)); exact Kd.R_mono HO_5.out (fun _ hk => ⟨trivial, hk⟩)) hg hat); have n1_ := Aside0.mk (hb); have n2_ := Aside0.mk (ho); clear HO_5; clear HB; clear HO_7; have HO_5 := n0_; have HB := n1_; have HO121 := n2_; clear n0_ n1_ n2_; clear ho hb hg hat; have p122 : 0 ≤ (x9_3 : Int) := of_decide_eq_true (by first | (with_reducible assumption) | assumption); have q122 : x9_3 < (x5_2.length : Int) := of_decide_eq_true (by first | (with_reducible assumption) | assumption); obtain ⟨ad122, e122, hx122_0, hx122_1, hx122_2, hx122_3⟩ := at_T33 (Kd.R_reads' HO_5.out).2.2 x9_3 p122 q122; obtain rfl : ad117 = ad122 := (by injection e122); replace p122 := eq_true p122; replace q122 := eq_true q122) | ((with_reducible refine gate_builtin (b := .append) (xs := #[.tmp 61, .tmp 66]) rfl ?_); at_builtin; refine Kd.R_append k33 (w0 := w) w.heap.size rfl (.tmp 61) (.tmp 66) 22 33 (.agg #[(.int .i64 0), (.int .i64 0), (.int .i64 0), (.int .i64 0)]) 32 rfl Try.underlying22 info33 rfl (by decide) (by omega) v120 y119 (⟨(rd_T33 x5_2 x9_3).f0, (rd_T33 x5_2 x9_3).f1, (rd_T33 x5_2 x9_3).f2, (rd_T33 x5_2 x9_3).f3⟩ : S33) [.int .i64 ((rd_T33 x5_2 x9_3).f0), .int .i64 ((rd_T33 x5_2 x9_3).f1), .int .i64 ((rd_T33 x5_2 x9_3).f2), .int .i64 ((rd_T33 x5_2 x9_3).f3)] (fun k_ => some k_ ≠ (.slice (some ad117) x5_2.length co22 : Value).ownBlock) (fun _ => False) rfl rfl ?aP (fun _ hk => hk.elim) ?aF ?aO ?aB ?aS ?aL ?_; (case aP => exact k33_mkM _ _ _ (⟨(rd_T33 x5_2 x9_3).f0, (rd_T33 x5_2 x9_3).f1, (rd_T33 x5_2 x9_3).f2, (rd_T33 x5_2 x9_3).f3⟩ : S33)); (case aB => exact (by repeat (first | (with_reducible first | exact HB.out | apply below_alloc | apply pw_below_drewN | apply below_drew1) | exact HB.out))); (case aF => exact (fun k_ hk => Kd.fresh' (Kd.R_lt (by (with_reducible repeat (first | apply Kd.R_alloc | apply Kd.R_drewN | apply Kd.R_drew)); exact HO_5.out)) k_ hk)); (case aO => exact (by (with_reducible repeat (first | apply Kd.R_alloc | apply Kd.R_drewN | apply Kd.R_drew)); exact HO121.out)); (case aS => exact (below_size (by repeat (first | (with_reducible first | exact HB.out | apply below_alloc | apply pw_below_drewN | apply below_drew1) | exact HB.out)))); (case aL => have := LMc21.out; omega); intro v124 w24 ho hb hg hat; rw [← Ny123.out] at ho; have n0_ := Aside0.mk (Kd.R_after (ok := (fun _ => True)) (by (with_reducible repeat (first | apply Kd.R_alloc | apply Kd.R_drewN | apply Kd.R_drew)); exact HO_5.out) hg hat); have n1_ := Aside0.mk (hb); have n2_ := Aside0.mk (ho); clear HO_5; clear HB; clear HO121; have HO_5 := n0_; have HB := n1_; have HO125 := n2_; clear n0_ n1_ n2_; clear ho hb hg hat)); try go_wp2_with (first | ((with_reducible refine gate_builtin (b := .append) (xs := #[.tmp 54, .tmp 59]) rfl ?_); at_builtin; refine Kd.R_append k33 (w0 := w) w.heap.size rfl (.tmp 54) (.tmp 59) 22 33 (.agg #[(.int .i64 0), (.int .i64 0), (.int .i64 0), (.int .i64 0)]) 32 rfl Try.underlying22 info33 rfl (by decide) (by omega) u7 x7_3 (⟨(rd_T33 l0 x6_2).f0, (rd_T33 l0 x6_2).f1, (rd_T33 l0 x6_2).f2, (rd_T33 l0 x6_2).f3⟩ : S33) [.int .i64 ((rd_T33 l0 x6_2).f0), .int .i64 ((rd_T33 l0 x6_2).f1), .int .i64 ((rd_T33 l0 x6_2).f2), .int .i64 ((rd_T33 l0 x6_2).f3)] (fun k_ => some k_ ≠ (.slice (some ad117) x5_2.length co22 : Value).ownBlock) (fun _ => False) rfl rfl ?aP (fun _ hk => hk.elim) ?aF ?aO ?aB ?aS ?aL ?_; (case aP => exact k33_mkM _ _ _ (⟨(rd_T33 l0 x6_2).f0, (rd_T33 l0 x6_2).f1, (rd_T33 l0 x6_2).f2, (rd_T33 l0 x6_2).f3⟩ : S33)); (case aB => exact (by repeat (first | (with_reducible first | exact HB.out | apply below_alloc | apply pw_below_drewN | apply below_drew1) | exact HB.out))); (case aF => exact (fun k_ hk => Kd.fresh' (Kd.R_lt (by (with_reducible repeat (first | apply Kd.R_alloc | apply Kd.R_drewN | apply Kd.R_drew)); exact HO_5.out)) k_ hk)); (case aO => exact (by (with_reducible repeat (first | apply Kd.R_alloc | apply Kd.R_drewN | apply Kd.R_drew)); exact HO_7.out)); (case aS => exact (below_size (by repeat (first | (with_reducible first | exact HB.out | apply below_alloc | apply pw_below_drewN | apply below_drew1) | exact HB.out)))); (case aL => have := LMc20.out; omega); intro v120 w23 ho hb hg hat; rw [← Ny119.out] at ho; have n0_ := Aside0.mk (Kd.R_after (ok := (fun _ => True)) (by (with_reducible repeat (first | apply Kd.R_alloc | apply Kd.R_drewN | apply Kd.R_drew)); exact Kd.R_mono HO_5.out (fun _ hk => ⟨trivial, hk⟩)) hg hat); have n1_ := Aside0.mk (hb); have n2_ := Aside0.mk (ho); clear HO_5; clear HB; clear HO_7; have HO_5 := n0_; have HB := n1_; have HO121 := n2_; clear n0_ n1_ n2_; clear ho hb hg hat; have p122 : 0 ≤ (x9_3 : Int) := of_decide_eq_true (by first | (with_reducible assumption) | assumption); have q122 : x9_3 < (x5_2.length : Int) := of_decide_eq_true (by first | (with_reducible assumption) | assumption); obtain ⟨ad122, e122, hx122_0, hx122_1, hx122_2, hx122_3⟩ := at_T33 (Kd.R_reads' HO_5.out).2.2 x9_3 p122 q122; obtain rfl : ad117 = ad122 := (by injection e122); replace p122 := eq_true p122; replace q122 := eq_true q122) | ((with_reducible refine gate_builtin (b := .append) (xs := #[.tmp 61, .tmp 66]) rfl ?_); at_builtin; refine Kd.R_append k33 (w0 := w) w.heap.size rfl (.tmp 61) (.tmp 66) 22 33 (.agg #[(.int .i64 0), (.int .i64 0), (.int .i64 0), (.int .i64 0)]) 32 rfl Try.underlying22 info33 rfl (by decide) (by omega) v120 y119 (⟨(rd_T33 x5_2 x9_3).f0, (rd_T33 x5_2 x9_3).f1, (rd_T33 x5_2 x9_3).f2, (rd_T33 x5_2 x9_3).f3⟩ : S33) [.int .i64 ((rd_T33 x5_2 x9_3).f0), .int .i64 ((rd_T33 x5_2 x9_3).f1), .int .i64 ((rd_T33 x5_2 x9_3).f2), .int .i64 ((rd_T33 x5_2 x9_3).f3)] (fun k_ => some k_ ≠ (.slice (some ad117) x5_2.length co22 : Value).ownBlock) (fun _ => False) rfl rfl ?aP (fun _ hk => hk.elim) ?aF ?aO ?aB ?aS ?aL ?_; (case aP => exact k33_mkM _ _ _ (⟨(rd_T33 x5_2 x9_3).f0, (rd_T33 x5_2 x9_3).f1, (rd_T33 x5_2 x9_3).f2, (rd_T33 x5_2 x9_3).f3⟩ : S33)); (case aB => exact (by repeat (first | (with_reducible first | exact HB.out | apply below_alloc | apply pw_below_drewN | apply below_drew1) | exact HB.out))); (case aF => exact (fun k_ hk => Kd.fresh' (Kd.R_lt (by (with_reducible repeat (first | apply Kd.R_alloc | apply Kd.R_drewN | apply Kd.R_drew)); exact HO_5.out)) k_ hk)); (case aO => exact (by (with_reducible repeat (first | apply Kd.R_alloc | apply Kd.R_drewN | apply Kd.R_drew)); exact HO121.out)); (case aS => exact (below_size (by repeat (first | (with_reducible first | exact HB.out | apply below_alloc | apply pw_below_drewN | apply below_drew1) | exact HB.out)))); (case aL => have := LMc21.out; omega); intro v124 w24 ho hb hg hat; rw [← Ny123.out] at ho; have n0_ := Aside0.mk (Kd.R_after (ok := (fun _ => True)) (by (with_reducible repeat (first | apply Kd.R_alloc | apply Kd.R_drewN | apply Kd.R_drew)); exact HO_5.out) hg hat); have n1_ := Aside0.mk (hb); have n2_ := Aside0.mk (ho); clear HO_5; clear HB; clear HO121; have HO_5 := n0_; have HB := n1_; have HO125 := n2_; clear n0_ n1_ n2_; clear ho hb hg hat)))
                                    go_roundg k3
                                    case measure => have := HK1.out; have := HK2.out; have := HK3.out; omega
                                    case rel => exact ⟨(y123), (true), (wrap64 (x9_3 + 1)), (by first | rfl | (simp; done) | (simp [*]; done) | (simp; exact (IntWalk.wrap64_in _ (by decide)).symm)), (by first | rfl | (simp; done) | (simp [*]; done) | (simp; exact (IntWalk.wrap64_in _ (by decide)).symm)), H', ⟨by have := HK1.out; have := HK2.out; have := HK3.out; omega⟩, ⟨by (with_reducible repeat (first | apply Kd.R_alloc | apply Kd.R_drewN | apply Kd.R_drew)); exact Kd.R_mono HO_5.out (fun _ hk => hk.2)⟩, ⟨by (with_reducible repeat (first | apply Kd.R_alloc | apply Kd.R_drewN | apply Kd.R_drew)); exact HO125.out⟩, ⟨by repeat (first | (with_reducible first | exact HB.out | apply below_alloc | apply pw_below_drewN | apply below_drew1) | exact HB.out)⟩⟩
                                  · rw [if_neg c21] at H
                                    exact absurd H (by simp)
                                · rw [if_neg c20] at H
                                  exact absurd H (by simp)
                              · rw [if_neg c19] at H
                                have c19b0 : decide (((rd_T33 l0 x6_2).f0) < ((rd_T33 x5_2 x9_3).f0)) = false := decide_eq_false c19
                                clear c19
                                by_cases c25 : x7_3.length < 4398046511104
                                · rw [if_pos c25] at H
                                  have LMc25 := Aside0.mk c25
                                  clear c25
                                  obtain ⟨y127, hy127⟩ : ∃ y_ : List (S33), y_ = (x7_3 ++ [(⟨(rd_T33 x5_2 x9_3).f0, (rd_T33 x5_2 x9_3).f1, (rd_T33 x5_2 x9_3).f2, (rd_T33 x5_2 x9_3).f3⟩ : S33)]) := ⟨_, rfl⟩
                                  replace H : (crierref05_New.l2 k3 l0 x5_2 x6_2 y127 false (wrap64 (x9_3 + 1))) = some (r1, r2) := by first | (rw [hy127]; with_reducible exact H) | (have H2_ := (Option.bind_some _ _).symm.trans H; rw [hy127]; with_reducible exact H2_) | (have H2_ := (Option.bind_some _ _).symm.trans H; with_reducible exact H2_) | with_reducible exact H | (rw [hy127]; exact H) | exact H
                                  have Ny127 := Aside0.mk hy127
                                  clear hy127
                                  have H' := Aside0.mk H
                                  clear H
                                  obtain ⟨Ao26, co26, eo26⟩ := Kd.R_slice HO_5.out
                                  subst eo26
                                  have p116 : 0 ≤ (x6_2 : Int) := of_decide_eq_true (by first | (with_reducible assumption) | assumption)
                                  have q116 : x6_2 < (l0.length : Int) := of_decide_eq_true (by first | (with_reducible assumption) | assumption)
                                  obtain ⟨ad116, e116, hx116_0, hx116_1, hx116_2, hx116_3⟩ := at_T33 HR0.out x6_2 p116 q116
                                  cases e116
                                  replace hx116_0 := (HB.out.cell (World.block_lt_of_cell? w _ hx116_0)).trans hx116_0
                                  replace hx116_1 := (HB.out.cell (World.block_lt_of_cell? w _ hx116_1)).trans hx116_1
                                  replace hx116_2 := (HB.out.cell (World.block_lt_of_cell? w _ hx116_2)).trans hx116_2
                                  replace hx116_3 := (HB.out.cell (World.block_lt_of_cell? w _ hx116_3)).trans hx116_3
                                  replace p116 := eq_true p116
                                  replace q116 := eq_true q116
                                  have p117 : 0 ≤ (x9_3 : Int) := of_decide_eq_true (by first | (with_reducible assumption) | assumption)
                                  have q117 : x9_3 < (x5_2.length : Int) := of_decide_eq_true (by first | (with_reducible assumption) | assumption)
                                  obtain ⟨ad117, e117, hx117_0, hx117_1, hx117_2, hx117_3⟩ := at_T33 (Kd.R_reads' HO_5.out).2.2 x9_3 p117 q117
                                  cases e117
                                  replace p117 := eq_true p117
                                  replace q117 := eq_true q117
                                  have p126 : 0 ≤ (x9_3 : Int) := of_decide_eq_true (by first | (with_reducible assumption) | assumption)
                                  have q126 : x9_3 < (x5_2.length : Int) := of_decide_eq_true (by first | (with_reducible assumption) | assumption)
                                  obtain ⟨ad126, e126, hx126_0, hx126_1, hx126_2, hx126_3⟩ := at_T33 (Kd.R_reads' HO_5.out).2.2 x9_3 p126 q126
                                  obtain rfl : ad117 = ad126 := (by injection e126)
                                  replace p126 := eq_true p126
                                  replace q126 := eq_true q126
                                  go_wp2_with (first | ((with_reducible refine gate_builtin (b := .append) (xs := #[.tmp 61, .tmp 66]) rfl ?_); at_builtin; refine Kd.R_append k33 (w0 := w) w.heap.size rfl (.tmp 61) (.tmp 66) 22 33 (.agg #[(.int .i64 0), (.int .i64 0), (.int .i64 0), (.int .i64 0)]) 32 rfl Try.underlying22 info33 rfl (by decide) (by omega) u7 x7_3 (⟨(rd_T33 x5_2 x9_3).f0, (rd_T33 x5_2 x9_3).f1, (rd_T33 x5_2 x9_3).f2, (rd_T33 x5_2 x9_3).f3⟩ : S33) [.int .i64 ((rd_T33 x5_2 x9_3).f0), .int .i64 ((rd_T33 x5_2 x9_3).f1), .int .i64 ((rd_T33 x5_2 x9_3).f2), .int .i64 ((rd_T33 x5_2 x9_3).f3)] (fun k_ => some k_ ≠ (.slice (some ad117) x5_2.length co26 : Value).ownBlock) (fun _ => False) rfl rfl ?aP (fun _ hk => hk.elim) ?aF ?aO ?aB ?aS ?aL ?_; (case aP => exact k33_mkM _ _ _ (⟨(rd_T33 x5_2 x9_3).f0, (rd_T33 x5_2 x9_3).f1, (rd_T33 x5_2 x9_3).f2, (rd_T33 x5_2 x9_3).f3⟩ : S33)); (case aB => exact (by repeat (first | (with_reducible first | exact HB.out | apply below_alloc | apply pw_below_drewN | apply below_drew1) | exact HB.out))); (case aF => exact (fun k_ hk => Kd.fresh' (Kd.R_lt (by (with_reducible repeat (first | apply Kd.R_alloc | apply Kd.R_drewN | apply Kd.R_drew)); exact HO_5.out)) k_ hk)); (case aO => exact (by (with_reducible repeat (first | apply Kd.R_alloc | apply Kd.R_drewN | apply Kd.R_drew)); exact HO_7.out)); (case aS => exact (below_size (by repeat (first | (with_reducible first | exact HB.out | apply below_alloc | apply pw_below_drewN | apply below_drew1) | exact HB.out)))); (case aL => have := LMc25.out; omega); intro v128 w27 ho hb hg hat; rw [← Ny127.out] at ho; have n0_ := Aside0.mk (Kd.R_after (ok := (fun _ => True)) (by (with_reducible repeat (first | apply Kd.R_alloc | apply Kd.R_drewN | apply Kd.R_drew)); exact Kd.R_mono HO_5.out (fun _ hk => ⟨trivial, hk⟩)) hg hat); have n1_ := Aside0.mk (hb); have n2_ := Aside0.mk (ho); clear HO_5; clear HB; clear HO_7; have HO_5 := n0_; have HB := n1_; have HO129 := n2_; clear n0_ n1_ n2_; clear ho hb hg hat))
                                  repeat (go_quiet (first | ((with_reducible refine gate_builtin (b := .append) (xs := #[.tmp 61, .tmp 66]) rfl ?_); at_builtin; refine Kd.R_append k33 (w0 := w) w.heap.size rfl (.tmp 61) (.tmp 66) 22 33 (.agg #[(.int .i64 0), (.int .i64 0), (.int .i64 0), (.int .i64 0)]) 32 rfl Try.underlying22 info33 rfl (by decide) (by omega) u7 x7_3 (⟨(rd_T33 x5_2 x9_3).f0, (rd_T33 x5_2 x9_3).f1, (rd_T33 x5_2 x9_3).f2, (rd_T33 x5_2 x9_3).f3⟩ : S33) [.int .i64 ((rd_T33 x5_2 x9_3).f0), .int .i64 ((rd_T33 x5_2 x9_3).f1), .int .i64 ((rd_T33 x5_2 x9_3).f2), .int .i64 ((rd_T33 x5_2 x9_3).f3)] (fun k_ => some k_ ≠ (.slice (some ad117) x5_2.length co26 : Value).ownBlock) (fun _ => False) rfl rfl ?aP (fun _ hk => hk.elim) ?aF ?aO ?aB ?aS ?aL ?_; (case aP => exact k33_mkM _ _ _ (⟨(rd_T33 x5_2 x9_3).f0, (rd_T33 x5_2 x9_3).f1, (rd_T33 x5_2 x9_3).f2, (rd_T33 x5_2 x9_3).f3⟩ : S33)); (case aB => exact (by repeat (first | (with_reducible first | exact HB.out | apply below_alloc | apply pw_below_drewN | apply below_drew1) | exact HB.out))); (case aF => exact (fun k_ hk => Kd.fresh' (Kd.R_lt (by (with_reducible repeat (first | apply Kd.R_alloc | apply Kd.R_drewN | apply Kd.R_drew)); exact HO_5.out)) k_ hk)); (case aO => exact (by (with_reducible repeat (first | apply Kd.R_alloc | apply Kd.R_drewN | apply Kd.R_drew)); exact HO_7.out)); (case aS => exact (below_size (by repeat (first | (with_reducible first | exact HB.out | apply below_alloc | apply pw_below_drewN | apply below_drew1) | exact HB.out)))); (case aL => have := LMc25.out; omega); intro v128 w27 ho hb hg hat; rw [← Ny127.out] at ho; have n0_ := Aside0.mk (Kd.R_after (ok := (fun _ => True)) (by (with_reducible repeat (first | apply Kd.R_alloc | apply Kd.R_drewN | apply Kd.R_drew)); exact Kd.R_mono HO_5.out (fun _ hk => ⟨trivial, hk⟩)) hg hat); have n1_ := Aside0.mk (hb); have n2_ := Aside0.mk (ho); clear HO_5; clear HB; clear HO_7; have HO_5 := n0_; have HB := n1_; have HO129 := n2_; clear n0_ n1_ n2_; clear ho hb hg hat)); try go_wp2_with (first | ((with_reducible refine gate_builtin (b := .append) (xs := #[.tmp 61, .tmp 66]) rfl ?_); at_builtin; refine Kd.R_append k33 (w0 := w) w.heap.size rfl (.tmp 61) (.tmp 66) 22 33 (.agg #[(.int .i64 0), (.int .i64 0), (.int .i64 0), (.int .i64 0)]) 32 rfl Try.underlying22 info33 rfl (by decide) (by omega) u7 x7_3 (⟨(rd_T33 x5_2 x9_3).f0, (rd_T33 x5_2 x9_3).f1, (rd_T33 x5_2 x9_3).f2, (rd_T33 x5_2 x9_3).f3⟩ : S33) [.int .i64 ((rd_T33 x5_2 x9_3).f0), .int .i64 ((rd_T33 x5_2 x9_3).f1), .int .i64 ((rd_T33 x5_2 x9_3).f2), .int .i64 ((rd_T33 x5_2 x9_3).f3)] (fun k_ => some k_ ≠ (.slice (some ad117) x5_2.length co26 : Value).ownBlock) (fun _ => False) rfl rfl ?aP (fun _ hk => hk.elim) ?aF ?aO ?aB ?aS ?aL ?_; (case aP => exact k33_mkM _ _ _ (⟨(rd_T33 x5_2 x9_3).f0, (rd_T33 x5_2 x9_3).f1, (rd_T33 x5_2 x9_3).f2, (rd_T33 x5_2 x9_3).f3⟩ : S33)); (case aB => exact (by repeat (first | (with_reducible first | exact HB.out | apply below_alloc | apply pw_below_drewN | apply below_drew1) | exact HB.out))); (case aF => exact (fun k_ hk => Kd.fresh' (Kd.R_lt (by (with_reducible repeat (first | apply Kd.R_alloc | apply Kd.R_drewN | apply Kd.R_drew)); exact HO_5.out)) k_ hk)); (case aO => exact (by (with_reducible repeat (first | apply Kd.R_alloc | apply Kd.R_drewN | apply Kd.R_drew)); exact HO_7.out)); (case aS => exact (below_size (by repeat (first | (with_reducible first | exact HB.out | apply below_alloc | apply pw_below_drewN | apply below_drew1) | exact HB.out)))); (case aL => have := LMc25.out; omega); intro v128 w27 ho hb hg hat; rw [← Ny127.out] at ho; have n0_ := Aside0.mk (Kd.R_after (ok := (fun _ => True)) (by (with_reducible repeat (first | apply Kd.R_alloc | apply Kd.R_drewN | apply Kd.R_drew)); exact Kd.R_mono HO_5.out (fun _ hk => ⟨trivial, hk⟩)) hg hat); have n1_ := Aside0.mk (hb); have n2_ := Aside0.mk (ho); clear HO_5; clear HB; clear HO_7; have HO_5 := n0_; have HB := n1_; have HO129 := n2_; clear n0_ n1_ n2_; clear ho hb hg hat)))
                                  go_roundg k3
                                  case measure => have := HK1.out; have := HK2.out; have := HK3.out; omega
                                  case rel => exact ⟨(y127), (false), (wrap64 (x9_3 + 1)), (by first | rfl | (simp; done) | (simp [*]; done) | (simp; exact (IntWalk.wrap64_in _ (by decide)).symm)), (by first | rfl | (simp; done) | (simp [*]; done) | (simp; exact (IntWalk.wrap64_in _ (by decide)).symm)), H', ⟨by have := HK1.out; have := HK2.out; have := HK3.out; omega⟩, ⟨by (with_reducible repeat (first | apply Kd.R_alloc | apply Kd.R_drewN | apply Kd.R_drew)); exact Kd.R_mono HO_5.out (fun _ hk => hk.2)⟩, ⟨by (with_reducible repeat (first | apply Kd.R_alloc | apply Kd.R_drewN | apply Kd.R_drew)); exact HO129.out⟩, ⟨by repeat (first | (with_reducible first | exact HB.out | apply below_alloc | apply pw_below_drewN | apply below_drew1) | exact HB.out)⟩⟩
                                · rw [if_neg c25] at H
                                  exact absurd H (by simp)
                            · rw [if_neg c18] at H
                              exact absurd H (by simp)
                          · rw [if_neg c17] at H
                            exact absurd H (by simp)
                        · rw [if_neg c16] at H
                          exact absurd H (by simp)
                    · rw [if_neg c10] at H
                      have c10b0 : decide (x9_3 < (x5_2.length : Int)) = false := decide_eq_false c10
                      clear c10
                      by_cases c28 : x8_3 = true
                      · subst c28
                        have H1 : (crierref05_New.l1 k3 l0 x7_3 (wrap64 (x6_2 + 1))) = some (r1, r2) := by first | (rw [if_pos rfl] at H; exact H) | (rw [if_pos trivial] at H; exact H)
                        clear H
                        have H := H1
                        clear H1
                        have H' := Aside0.mk H
                        clear H
                        obtain ⟨Ao29, co29, eo29⟩ := Kd.R_slice HO_5.out
                        subst eo29
                        go_wp2
                        repeat (go_quiet (fail); try go_wp2)
                        go_roundg k3
                        case measure => have := HK1.out; have := HK2.out; have := HK3.out; omega
                        case rel => exact ⟨(x7_3), (wrap64 (x6_2 + 1)), (by first | rfl | (simp; done) | (simp [*]; done) | (simp; exact (IntWalk.wrap64_in _ (by decide)).symm)), H', ⟨by have := HK1.out; have := HK2.out; have := HK3.out; omega⟩, ⟨by (with_reducible repeat (first | apply Kd.R_alloc | apply Kd.R_drewN | apply Kd.R_drew)); exact Kd.R_mono HO_7.out (fun _ hk => trivial)⟩, ⟨by repeat (first | (with_reducible first | exact HB.out | apply below_alloc | apply pw_below_drewN | apply below_drew1) | exact HB.out)⟩⟩
                      · replace c28 := Bool.eq_false_iff.mpr c28
                        subst c28
                        have H1 : (if 0 ≤ x6_2 then (if x6_2 < (l0.length : Int) then (if x7_3.length < 4398046511104 then (crierref05_New.l1 k3 l0 (x7_3 ++ [(⟨(rd_T33 l0 x6_2).f0, (rd_T33 l0 x6_2).f1, (rd_T33 l0 x6_2).f2, (rd_T33 l0 x6_2).f3⟩ : S33)]) (wrap64 (x6_2 + 1))) else (none)) else (none)) else (none)) = some (r1, r2) := by rw [if_neg (show ¬ (false = true) by decide)] at H; exact H
                        clear H
                        have H := H1
                        clear H1
                        by_cases c30 : 0 ≤ x6_2
                        · rw [if_pos c30] at H
                          have c30b0 : decide (0 ≤ x6_2) = true := decide_eq_true c30
                          clear c30
                          by_cases c31 : x6_2 < (l0.length : Int)
                          · rw [if_pos c31] at H
                            have c31b0 : decide (x6_2 < (l0.length : Int)) = true := decide_eq_true c31
                            clear c31
                            by_cases c32 : x7_3.length < 4398046511104
                            · rw [if_pos c32] at H
                              have LMc32 := Aside0.mk c32
                              clear c32
                              obtain ⟨y131, hy131⟩ : ∃ y_ : List (S33), y_ = (x7_3 ++ [(⟨(rd_T33 l0 x6_2).f0, (rd_T33 l0 x6_2).f1, (rd_T33 l0 x6_2).f2, (rd_T33 l0 x6_2).f3⟩ : S33)]) := ⟨_, rfl⟩
                              replace H : (crierref05_New.l1 k3 l0 y131 (wrap64 (x6_2 + 1))) = some (r1, r2) := by first | (rw [hy131]; with_reducible exact H) | (have H2_ := (Option.bind_some _ _).symm.trans H; rw [hy131]; with_reducible exact H2_) | (have H2_ := (Option.bind_some _ _).symm.trans H; with_reducible exact H2_) | with_reducible exact H | (rw [hy131]; exact H) | exact H
                              have Ny131 := Aside0.mk hy131
                              clear hy131
                              have H' := Aside0.mk H
                              clear H
                              obtain ⟨Ao33, co33, eo33⟩ := Kd.R_slice HO_5.out
                              subst eo33
                              have p130 : 0 ≤ (x6_2 : Int) := of_decide_eq_true (by first | (with_reducible assumption) | assumption)
                              have q130 : x6_2 < (l0.length : Int) := of_decide_eq_true (by first | (with_reducible assumption) | assumption)
                              obtain ⟨ad130, e130, hx130_0, hx130_1, hx130_2, hx130_3⟩ := at_T33 HR0.out x6_2 p130 q130
                              cases e130
                              replace hx130_0 := (HB.out.cell (World.block_lt_of_cell? w _ hx130_0)).trans hx130_0
                              replace hx130_1 := (HB.out.cell (World.block_lt_of_cell? w _ hx130_1)).trans hx130_1
                              replace hx130_2 := (HB.out.cell (World.block_lt_of_cell? w _ hx130_2)).trans hx130_2
                              replace hx130_3 := (HB.out.cell (World.block_lt_of_cell? w _ hx130_3)).trans hx130_3
                              replace p130 := eq_true p130
                              replace q130 := eq_true q130
                              go_wp2_with (first | ((with_reducible refine gate_builtin (b := .append) (xs := #[.tmp 70, .tmp 75]) rfl ?_); at_builtin; refine Kd.R_append k33 (w0 := w) w.heap.size rfl (.tmp 70) (.tmp 75) 22 33 (.agg #[(.int .i64 0), (.int .i64 0), (.int .i64 0), (.int .i64 0)]) 32 rfl Try.underlying22 info33 rfl (by decide) (by omega) u7 x7_3 (⟨(rd_T33 l0 x6_2).f0, (rd_T33 l0 x6_2).f1, (rd_T33 l0 x6_2).f2, (rd_T33 l0 x6_2).f3⟩ : S33) [.int .i64 ((rd_T33 l0 x6_2).f0), .int .i64 ((rd_T33 l0 x6_2).f1), .int .i64 ((rd_T33 l0 x6_2).f2), .int .i64 ((rd_T33 l0 x6_2).f3)] (fun k_ => some k_ ≠ (.slice Ao33 x5_2.length co33 : Value).ownBlock) (fun _ => False) rfl rfl ?aP (fun _ hk => hk.elim) ?aF ?aO ?aB ?aS ?aL ?_; (case aP => exact k33_mkM _ _ _ (⟨(rd_T33 l0 x6_2).f0, (rd_T33 l0 x6_2).f1, (rd_T33 l0 x6_2).f2, (rd_T33 l0 x6_2).f3⟩ : S33)); (case aB => exact (by repeat (first | (with_reducible first | exact HB.out | apply below_alloc | apply pw_below_drewN | apply below_drew1) | exact HB.out))); (case aF => exact (fun k_ hk => Kd.fresh' (Kd.R_lt (by (with_reducible repeat (first | apply Kd.R_alloc | apply Kd.R_drewN | apply Kd.R_drew)); exact HO_5.out)) k_ hk)); (case aO => exact (by (with_reducible repeat (first | apply Kd.R_alloc | apply Kd.R_drewN | apply Kd.R_drew)); exact HO_7.out)); (case aS => exact (below_size (by repeat (first | (with_reducible first | exact HB.out | apply below_alloc | apply pw_below_drewN | apply below_drew1) | exact HB.out)))); (case aL => have := LMc32.out; omega); intro v132 w34 ho hb hg hat; rw [← Ny131.out] at ho; have n0_ := Aside0.mk (Kd.R_after (ok := (fun _ => True)) (by (with_reducible repeat (first | apply Kd.R_alloc | apply Kd.R_drewN | apply Kd.R_drew)); exact Kd.R_mono HO_5.out (fun _ hk => ⟨trivial, hk⟩)) hg hat); have n1_ := Aside0.mk (hb); have n2_ := Aside0.mk (ho); clear HO_5; clear HB; clear HO_7; have HO_5 := n0_; have HB := n1_; have HO133 := n2_; clear n0_ n1_ n2_; clear ho hb hg hat))
                              repeat (go_quiet (first | ((with_reducible refine gate_builtin (b := .append) (xs := #[.tmp 70, .tmp 75]) rfl ?_); at_builtin; refine Kd.R_append k33 (w0 := w) w.heap.size rfl (.tmp 70) (.tmp 75) 22 33 (.agg #[(.int .i64 0), (.int .i64 0), (.int .i64 0), (.int .i64 0)]) 32 rfl Try.underlying22 info33 rfl (by decide) (by omega) u7 x7_3 (⟨(rd_T33 l0 x6_2).f0, (rd_T33 l0 x6_2).f1, (rd_T33 l0 x6_2).f2, (rd_T33 l0 x6_2).f3⟩ : S33) [.int .i64 ((rd_T33 l0 x6_2).f0), .int .i64 ((rd_T33 l0 x6_2).f1), .int .i64 ((rd_T33 l0 x6_2).f2), .int .i64 ((rd_T33 l0 x6_2).f3)] (fun k_ => some k_ ≠ (.slice Ao33 x5_2.length co33 : Value).ownBlock) (fun _ => False) rfl rfl ?aP (fun _ hk => hk.elim) ?aF ?aO ?aB ?aS ?aL ?_; (case aP => exact k33_mkM _ _ _ (⟨(rd_T33 l0 x6_2).f0, (rd_T33 l0 x6_2).f1, (rd_T33 l0 x6_2).f2, (rd_T33 l0 x6_2).f3⟩ : S33)); (case aB => exact (by repeat (first | (with_reducible first | exact HB.out | apply below_alloc | apply pw_below_drewN | apply below_drew1) | exact HB.out))); (case aF => exact (fun k_ hk => Kd.fresh' (Kd.R_lt (by (with_reducible repeat (first | apply Kd.R_alloc | apply Kd.R_drewN | apply Kd.R_drew)); exact HO_5.out)) k_ hk)); (case aO => exact (by (with_reducible repeat (first | apply Kd.R_alloc | apply Kd.R_drewN | apply Kd.R_drew)); exact HO_7.out)); (case aS => exact (below_size (by repeat (first | (with_reducible first | exact HB.out | apply below_alloc | apply pw_below_drewN | apply below_drew1) | exact HB.out)))); (case aL => have := LMc32.out; omega); intro v132 w34 ho hb hg hat; rw [← Ny131.out] at ho; have n0_ := Aside0.mk (Kd.R_after (ok := (fun _ => True)) (by (with_reducible repeat (first | apply Kd.R_alloc | apply Kd.R_drewN | apply Kd.R_drew)); exact Kd.R_mono HO_5.out (fun _ hk => ⟨trivial, hk⟩)) hg hat); have n1_ := Aside0.mk (hb); have n2_ := Aside0.mk (ho); clear HO_5; clear HB; clear HO_7; have HO_5 := n0_; have HB := n1_; have HO133 := n2_; clear n0_ n1_ n2_; clear ho hb hg hat)); try go_wp2_with (first | ((with_reducible refine gate_builtin (b := .append) (xs := #[.tmp 70, .tmp 75]) rfl ?_); at_builtin; refine Kd.R_append k33 (w0 := w) w.heap.size rfl (.tmp 70) (.tmp 75) 22 33 (.agg #[(.int .i64 0), (.int .i64 0), (.int .i64 0), (.int .i64 0)]) 32 rfl Try.underlying22 info33 rfl (by decide) (by omega) u7 x7_3 (⟨(rd_T33 l0 x6_2).f0, (rd_T33 l0 x6_2).f1, (rd_T33 l0 x6_2).f2, (rd_T33 l0 x6_2).f3⟩ : S33) [.int .i64 ((rd_T33 l0 x6_2).f0), .int .i64 ((rd_T33 l0 x6_2).f1), .int .i64 ((rd_T33 l0 x6_2).f2), .int .i64 ((rd_T33 l0 x6_2).f3)] (fun k_ => some k_ ≠ (.slice Ao33 x5_2.length co33 : Value).ownBlock) (fun _ => False) rfl rfl ?aP (fun _ hk => hk.elim) ?aF ?aO ?aB ?aS ?aL ?_; (case aP => exact k33_mkM _ _ _ (⟨(rd_T33 l0 x6_2).f0, (rd_T33 l0 x6_2).f1, (rd_T33 l0 x6_2).f2, (rd_T33 l0 x6_2).f3⟩ : S33)); (case aB => exact (by repeat (first | (with_reducible first | exact HB.out | apply below_alloc | apply pw_below_drewN | apply below_drew1) | exact HB.out))); (case aF => exact (fun k_ hk => Kd.fresh' (Kd.R_lt (by (with_reducible repeat (first | apply Kd.R_alloc | apply Kd.R_drewN | apply Kd.R_drew)); exact HO_5.out)) k_ hk)); (case aO => exact (by (with_reducible repeat (first | apply Kd.R_alloc | apply Kd.R_drewN | apply Kd.R_drew)); exact HO_7.out)); (case aS => exact (below_size (by repeat (first | (with_reducible first | exact HB.out | apply below_alloc | apply pw_below_drewN | apply below_drew1) | exact HB.out)))); (case aL => have := LMc32.out; omega); intro v132 w34 ho hb hg hat; rw [← Ny131.out] at ho; have n0_ := Aside0.mk (Kd.R_after (ok := (fun _ => True)) (by (with_reducible repeat (first | apply Kd.R_alloc | apply Kd.R_drewN | apply Kd.R_drew)); exact Kd.R_mono HO_5.out (fun _ hk => ⟨trivial, hk⟩)) hg hat); have n1_ := Aside0.mk (hb); have n2_ := Aside0.mk (ho); clear HO_5; clear HB; clear HO_7; have HO_5 := n0_; have HB := n1_; have HO133 := n2_; clear n0_ n1_ n2_; clear ho hb hg hat)))
                              go_roundg k3
                              case measure => have := HK1.out; have := HK2.out; have := HK3.out; omega
                              case rel => exact ⟨(y131), (wrap64 (x6_2 + 1)), (by first | rfl | (simp; done) | (simp [*]; done) | (simp; exact (IntWalk.wrap64_in _ (by decide)).symm)), H', ⟨by have := HK1.out; have := HK2.out; have := HK3.out; omega⟩, ⟨by (with_reducible repeat (first | apply Kd.R_alloc | apply Kd.R_drewN | apply Kd.R_drew)); exact Kd.R_mono HO133.out (fun _ hk => trivial)⟩, ⟨by repeat (first | (with_reducible first | exact HB.out | apply below_alloc | apply pw_below_drewN | apply below_drew1) | exact HB.out)⟩⟩
                            · rw [if_neg c32] at H
                              exact absurd H (by simp)
                          · rw [if_neg c31] at H
                            exact absurd H (by simp)
                        · rw [if_neg c30] at H
                          exact absurd H (by simp)
              · rw [if_neg c9] at H
                have c9b0 : decide (x6_2 < (l0.length : Int)) = false := decide_eq_false c9
                clear c9
                have H' := Aside0.mk H
                clear H
                go_wp2
                repeat (go_quiet (fail); try go_wp2)
                go_loopg [10] k2 (fun kq v10 w' => ∃ (x10_3 : Int), v10 = .int .i64 x10_3 ∧ Aside0 (crierref05_New.l3 kq x5_2 x10_3 = some (r1, r2)) ∧ Aside0 (kq ≤ k2) ∧ Aside0 (Kd.R k33 33 w' w.heap.size (fun _ => True) u5 x5_2) ∧ Aside0 (Below w.heap.size w w'))
                case atStart => exact ⟨(0), (by first | rfl | (simp; done) | (simp [*]; done) | (simp; exact (IntWalk.wrap64_in _ (by decide)).symm)), H', ⟨Nat.le_refl _⟩, ⟨by (with_reducible repeat (first | apply Kd.R_alloc | apply Kd.R_drewN | apply Kd.R_drew)); exact HO_5.out⟩, ⟨by repeat (first | (with_reducible first | exact HB.out | apply below_alloc | apply pw_below_drewN | apply below_drew1) | exact HB.out)⟩⟩
                case round =>
                  clear H'
                  try clear c1
                  try clear p1
                  try clear q1
                  try clear hx1
                  try clear c2
                  try clear c2b0
                  try clear c2b1
                  try clear p2
                  try clear c3
                  try clear c3b0
                  try clear c4
                  try clear c4b0
                  try clear c6
                  try clear p6
                  try clear c9
                  try clear c9b0
                  try clear c10
                  try clear c10b0
                  try clear c11
                  try clear p11
                  try clear q11
                  try clear hx11
                  try clear c12
                  try clear c12b0
                  try clear p12
                  try clear q12
                  try clear hx12
                  try clear c13
                  try clear p13
                  try clear q13
                  try clear hx13
                  try clear c16
                  try clear c16b0
                  try clear c17
                  try clear c17b0
                  try clear c18
                  try clear c18b0
                  try clear c19
                  try clear c19b0
                  try clear c20
                  try clear c21
                  try clear c25
                  try clear c28
                  try clear c30
                  try clear c30b0
                  try clear c31
                  try clear c31b0
                  try clear c32
                  try clear hx110_0
                  try clear hx110_1
                  try clear hx110_2
                  try clear hx110_3
                  try clear hx112_0
                  try clear hx112_1
                  try clear hx112_2
                  try clear hx112_3
                  try clear hx116_0
                  try clear hx116_1
                  try clear hx116_2
                  try clear hx116_3
                  try clear hx117_0
                  try clear hx117_1
                  try clear hx117_2
                  try clear hx117_3
                  try clear hx118_0
                  try clear hx118_1
                  try clear hx118_2
                  try clear hx118_3
                  try clear hx122_0
                  try clear hx122_1
                  try clear hx122_2
                  try clear hx122_3
                  try clear hx126_0
                  try clear hx126_1
                  try clear hx126_2
                  try clear hx126_3
                  try clear hx130_0
                  try clear hx130_1
                  try clear hx130_2
                  try clear hx130_3
                  try clear p1
                  try clear p110
                  try clear p112
                  try clear p116
                  try clear p117
                  try clear p118
                  try clear p122
                  try clear p126
                  try clear p130
                  try clear p2
                  try clear p6
                  try clear q1
                  try clear q110
                  try clear q112
                  try clear q116
                  try clear q117
                  try clear q118
                  try clear q122
                  try clear q126
                  try clear q130
                  obtain ⟨x10_3, rfl, HA, HK3, HO_5, HB⟩ := hrel
                  cases gk with
                  | zero => exact absurd HA.out (by simp [crierref05_New.l3])
                  | succ k3 =>
                    have H := HA.out
                    clear HA
                    simp only [crierref05_New.l3] at H
                    by_cases c35 : x10_3 < (x5_2.length : Int)
                    · rw [if_pos c35] at H
                      have c35b0 : decide (x10_3 < (x5_2.length : Int)) = true := decide_eq_true c35
                      clear c35
                      have H' := Aside0.mk H
                      clear H
                      obtain ⟨Ao36, co36, eo36⟩ := Kd.R_slice HO_5.out
                      subst eo36
                      go_wp2
                      repeat (go_quiet (fail); try go_wp2)
                      go_loopg [11] k3 (fun kq v11 w' => ∃ (x11_4 : Int), v11 = .int .i64 x11_4 ∧ Aside0 (crierref05_New.l4 kq x5_2 x10_3 x11_4 = some (r1, r2)) ∧ Aside0 (kq ≤ k3) ∧ Aside0 (Kd.R k33 33 w' w.heap.size (fun _ => True) (.slice Ao36 x5_2.length co36) x5_2) ∧ Aside0 (Below w.heap.size w w'))
                      case atStart => exact ⟨(0), (by first | rfl | (simp; done) | (simp [*]; done) | (simp; exact (IntWalk.wrap64_in _ (by decide)).symm)), H', ⟨Nat.le_refl _⟩, ⟨by (with_reducible repeat (first | apply Kd.R_alloc | apply Kd.R_drewN | apply Kd.R_drew)); exact HO_5.out⟩, ⟨by repeat (first | (with_reducible first | exact HB.out | apply below_alloc | apply pw_below_drewN | apply below_drew1) | exact HB.out)⟩⟩
                      case round =>
                        clear H'
                        try clear c1
                        try clear p1
                        try clear q1
                        try clear hx1
                        try clear c2
                        try clear c2b0
                        try clear c2b1
                        try clear p2
                        try clear c3
                        try clear c3b0
                        try clear c4
                        try clear c4b0
                        try clear c6
                        try clear p6
                        try clear c9
                        try clear c9b0
                        try clear c10
                        try clear c10b0
                        try clear c11
                        try clear p11
                        try clear q11
                        try clear hx11
                        try clear c12
                        try clear c12b0
                        try clear p12
                        try clear q12
                        try clear hx12
                        try clear c13
                        try clear p13
                        try clear q13
                        try clear hx13
                        try clear c16
                        try clear c16b0
                        try clear c17
                        try clear c17b0
                        try clear c18
                        try clear c18b0
                        try clear c19
                        try clear c19b0
                        try clear c20
                        try clear c21
                        try clear c25
                        try clear c28
                        try clear c30
                        try clear c30b0
                        try clear c31
                        try clear c31b0
                        try clear c32
                        try clear c35
                        try clear c35b0
                        try clear hx110_0
                        try clear hx110_1
                        try clear hx110_2
                        try clear hx110_3
                        try clear hx112_0
                        try clear hx112_1
                        try clear hx112_2
                        try clear hx112_3
                        try clear hx116_0
                        try clear hx116_1
                        try clear hx116_2
                        try clear hx116_3
                        try clear hx117_0
                        try clear hx117_1
                        try clear hx117_2
                        try clear hx117_3
                        try clear hx118_0
                        try clear hx118_1
                        try clear hx118_2
                        try clear hx118_3
                        try clear hx122_0
                        try clear hx122_1
                        try clear hx122_2
                        try clear hx122_3
                        try clear hx126_0
                        try clear hx126_1
                        try clear hx126_2
                        try clear hx126_3
                        try clear hx130_0
                        try clear hx130_1
                        try clear hx130_2
                        try clear hx130_3
                        try clear p1
                        try clear p11
                        try clear p110
                        try clear p112
                        try clear p116
                        try clear p117
                        try clear p118
                        try clear p12
                        try clear p122
                        try clear p126
                        try clear p13
                        try clear p130
                        try clear p2
                        try clear p6
                        try clear q1
                        try clear q11
                        try clear q110
                        try clear q112
                        try clear q116
                        try clear q117
                        try clear q118
                        try clear q12
                        try clear q122
                        try clear q126
                        try clear q13
                        try clear q130
                        obtain ⟨x11_4, rfl, HA, HK4, HO_5, HB⟩ := hrel
                        cases gk with
                        | zero => exact absurd HA.out (by simp [crierref05_New.l4])
                        | succ k4 =>
                          have H := HA.out
                          clear HA
                          simp only [crierref05_New.l4] at H
                          by_cases c37 : x11_4 < x10_3
                          · rw [if_pos c37] at H
                            have c37b0 : decide (x11_4 < x10_3) = true := decide_eq_true c37
                            clear c37
                            by_cases c38 : 0 ≤ x10_3
                            · rw [if_pos c38] at H
                              have c38b0 : decide (0 ≤ x10_3) = true := decide_eq_true c38
                              clear c38
                              by_cases c39 : x10_3 < (x5_2.length : Int)
                              · rw [if_pos c39] at H
                                have c39b0 : decide (x10_3 < (x5_2.length : Int)) = true := decide_eq_true c39
                                clear c39
                                by_cases c40 : 0 ≤ x11_4
                                · rw [if_pos c40] at H
                                  have c40b0 : decide (0 ≤ x11_4) = true := decide_eq_true c40
                                  clear c40
                                  by_cases c41 : x11_4 < (x5_2.length : Int)
                                  · rw [if_pos c41] at H
                                    have c41b0 : decide (x11_4 < (x5_2.length : Int)) = true := decide_eq_true c41
                                    clear c41
                                    by_cases c42 : ((rd_T33 x5_2 x10_3).f0) < (wrap64 (((rd_T33 x5_2 x11_4).f0) + ((rd_T33 x5_2 x11_4).f1)))
                                    · rw [if_pos c42] at H
                                      have c42b0 : decide (((rd_T33 x5_2 x10_3).f0) < (wrap64 (((rd_T33 x5_2 x11_4).f0) + ((rd_T33 x5_2 x11_4).f1)))) = true := decide_eq_true c42
                                      clear c42
                                      by_cases c43 : ((rd_T33 x5_2 x11_4).f0) < (wrap64 (((rd_T33 x5_2 x10_3).f0) + ((rd_T33 x5_2 x10_3).f1)))
                                      · rw [if_pos c43] at H
                                        have c43b0 : decide (((rd_T33 x5_2 x11_4).f0) < (wrap64 (((rd_T33 x5_2 x10_3).f0) + ((rd_T33 x5_2 x10_3).f1)))) = true := decide_eq_true c43
                                        clear c43
                                        simp only [Option.some.injEq, Prod.mk.injEq] at H
                                        obtain ⟨rfl, rfl⟩ := H
                                        have p134 : 0 ≤ (x10_3 : Int) := of_decide_eq_true (by first | (with_reducible assumption) | assumption)
                                        have q134 : x10_3 < (x5_2.length : Int) := of_decide_eq_true (by first | (with_reducible assumption) | assumption)
                                        obtain ⟨ad134, e134, hx134_0, hx134_1, hx134_2, hx134_3⟩ := at_T33 (Kd.R_reads' HO_5.out).2.2 x10_3 p134 q134
                                        cases e134
                                        replace p134 := eq_true p134
                                        replace q134 := eq_true q134
                                        have p135 : 0 ≤ (x11_4 : Int) := of_decide_eq_true (by first | (with_reducible assumption) | assumption)
                                        have q135 : x11_4 < (x5_2.length : Int) := of_decide_eq_true (by first | (with_reducible assumption) | assumption)
                                        obtain ⟨ad135, e135, hx135_0, hx135_1, hx135_2, hx135_3⟩ := at_T33 (Kd.R_reads' HO_5.out).2.2 x11_4 p135 q135
                                        obtain rfl : ad134 = ad135 := (by injection e135)
                                        replace p135 := eq_true p135
                                        replace q135 := eq_true q135
                                        have p136 : 0 ≤ (x11_4 : Int) := of_decide_eq_true (by first | (with_reducible assumption) | assumption)
                                        have q136 : x11_4 < (x5_2.length : Int) := of_decide_eq_true (by first | (with_reducible assumption) | assumption)
                                        obtain ⟨ad136, e136, hx136_0, hx136_1, hx136_2, hx136_3⟩ := at_T33 (Kd.R_reads' HO_5.out).2.2 x11_4 p136 q136
                                        obtain rfl : ad134 = ad136 := (by injection e136)
                                        replace p136 := eq_true p136
                                        replace q136 := eq_true q136
                                        have p137 : 0 ≤ (x11_4 : Int) := of_decide_eq_true (by first | (with_reducible assumption) | assumption)
                                        have q137 : x11_4 < (x5_2.length : Int) := of_decide_eq_true (by first | (with_reducible assumption) | assumption)
                                        obtain ⟨ad137, e137, hx137_0, hx137_1, hx137_2, hx137_3⟩ := at_T33 (Kd.R_reads' HO_5.out).2.2 x11_4 p137 q137
                                        obtain rfl : ad134 = ad137 := (by injection e137)
                                        replace p137 := eq_true p137
                                        replace q137 := eq_true q137
                                        have p138 : 0 ≤ (x10_3 : Int) := of_decide_eq_true (by first | (with_reducible assumption) | assumption)
                                        have q138 : x10_3 < (x5_2.length : Int) := of_decide_eq_true (by first | (with_reducible assumption) | assumption)
                                        obtain ⟨ad138, e138, hx138_0, hx138_1, hx138_2, hx138_3⟩ := at_T33 (Kd.R_reads' HO_5.out).2.2 x10_3 p138 q138
                                        obtain rfl : ad134 = ad138 := (by injection e138)
                                        replace p138 := eq_true p138
                                        replace q138 := eq_true q138
                                        have p139 : 0 ≤ (x10_3 : Int) := of_decide_eq_true (by first | (with_reducible assumption) | assumption)
                                        have q139 : x10_3 < (x5_2.length : Int) := of_decide_eq_true (by first | (with_reducible assumption) | assumption)
                                        obtain ⟨ad139, e139, hx139_0, hx139_1, hx139_2, hx139_3⟩ := at_T33 (Kd.R_reads' HO_5.out).2.2 x10_3 p139 q139
                                        obtain rfl : ad134 = ad139 := (by injection e139)
                                        replace p139 := eq_true p139
                                        replace q139 := eq_true q139
                                        go_wp2
                                        repeat (go_quiet (fail); try go_wp2)
                                        go_ret2
                                        exact ⟨_, by first | rfl | (simp [errW_none, errW_some] <;> rfl) | (simp [*, errW_none, errW_some] <;> rfl), by first | exact Kd.R_nil _ _ _ _ _ | exact Kd.N_nil _ _ _ _ _ | exact Kd.V_nil _ _ _ _ _ | exact Kd.Q_nil _ _ _ _ _ | exact Kd.S_nil _ _ _ _ _, by repeat (first | (with_reducible first | exact HB.out | apply below_alloc | apply pw_below_drewN | apply below_drew1) | exact HB.out)⟩
                                      · rw [if_neg c43] at H
                                        have c43b0 : decide (((rd_T33 x5_2 x11_4).f0) < (wrap64 (((rd_T33 x5_2 x10_3).f0) + ((rd_T33 x5_2 x10_3).f1)))) = false := decide_eq_false c43
                                        clear c43
                                        have H' := Aside0.mk H
                                        clear H
                                        have p134 : 0 ≤ (x10_3 : Int) := of_decide_eq_true (by first | (with_reducible assumption) | assumption)
                                        have q134 : x10_3 < (x5_2.length : Int) := of_decide_eq_true (by first | (with_reducible assumption) | assumption)
                                        obtain ⟨ad134, e134, hx134_0, hx134_1, hx134_2, hx134_3⟩ := at_T33 (Kd.R_reads' HO_5.out).2.2 x10_3 p134 q134
                                        cases e134
                                        replace p134 := eq_true p134
                                        replace q134 := eq_true q134
                                        have p135 : 0 ≤ (x11_4 : Int) := of_decide_eq_true (by first | (with_reducible assumption) | assumption)
                                        have q135 : x11_4 < (x5_2.length : Int) := of_decide_eq_true (by first | (with_reducible assumption) | assumption)
                                        obtain ⟨ad135, e135, hx135_0, hx135_1, hx135_2, hx135_3⟩ := at_T33 (Kd.R_reads' HO_5.out).2.2 x11_4 p135 q135
                                        obtain rfl : ad134 = ad135 := (by injection e135)
                                        replace p135 := eq_true p135
                                        replace q135 := eq_true q135
                                        have p136 : 0 ≤ (x11_4 : Int) := of_decide_eq_true (by first | (with_reducible assumption) | assumption)
                                        have q136 : x11_4 < (x5_2.length : Int) := of_decide_eq_true (by first | (with_reducible assumption) | assumption)
                                        obtain ⟨ad136, e136, hx136_0, hx136_1, hx136_2, hx136_3⟩ := at_T33 (Kd.R_reads' HO_5.out).2.2 x11_4 p136 q136
                                        obtain rfl : ad134 = ad136 := (by injection e136)
                                        replace p136 := eq_true p136
                                        replace q136 := eq_true q136
                                        have p137 : 0 ≤ (x11_4 : Int) := of_decide_eq_true (by first | (with_reducible assumption) | assumption)
                                        have q137 : x11_4 < (x5_2.length : Int) := of_decide_eq_true (by first | (with_reducible assumption) | assumption)
                                        obtain ⟨ad137, e137, hx137_0, hx137_1, hx137_2, hx137_3⟩ := at_T33 (Kd.R_reads' HO_5.out).2.2 x11_4 p137 q137
                                        obtain rfl : ad134 = ad137 := (by injection e137)
                                        replace p137 := eq_true p137
                                        replace q137 := eq_true q137
                                        have p138 : 0 ≤ (x10_3 : Int) := of_decide_eq_true (by first | (with_reducible assumption) | assumption)
                                        have q138 : x10_3 < (x5_2.length : Int) := of_decide_eq_true (by first | (with_reducible assumption) | assumption)
                                        obtain ⟨ad138, e138, hx138_0, hx138_1, hx138_2, hx138_3⟩ := at_T33 (Kd.R_reads' HO_5.out).2.2 x10_3 p138 q138
                                        obtain rfl : ad134 = ad138 := (by injection e138)
                                        replace p138 := eq_true p138
                                        replace q138 := eq_true q138
                                        have p139 : 0 ≤ (x10_3 : Int) := of_decide_eq_true (by first | (with_reducible assumption) | assumption)
                                        have q139 : x10_3 < (x5_2.length : Int) := of_decide_eq_true (by first | (with_reducible assumption) | assumption)
                                        obtain ⟨ad139, e139, hx139_0, hx139_1, hx139_2, hx139_3⟩ := at_T33 (Kd.R_reads' HO_5.out).2.2 x10_3 p139 q139
                                        obtain rfl : ad134 = ad139 := (by injection e139)
                                        replace p139 := eq_true p139
                                        replace q139 := eq_true q139
                                        go_wp2
                                        repeat (go_quiet (fail); try go_wp2)
                                        go_roundg k4
                                        case measure => have := HK1.out; have := HK2.out; have := HK3.out; have := HK4.out; omega
                                        case rel => exact ⟨(wrap64 (x11_4 + 1)), (by first | rfl | (simp; done) | (simp [*]; done) | (simp; exact (IntWalk.wrap64_in _ (by decide)).symm)), H', ⟨by have := HK1.out; have := HK2.out; have := HK3.out; have := HK4.out; omega⟩, ⟨by (with_reducible repeat (first | apply Kd.R_alloc | apply Kd.R_drewN | apply Kd.R_drew)); exact HO_5.out⟩, ⟨by repeat (first | (with_reducible first | exact HB.out | apply below_alloc | apply pw_below_drewN | apply below_drew1) | exact HB.out)⟩⟩
                                    · rw [if_neg c42] at H
                                      have c42b0 : decide (((rd_T33 x5_2 x10_3).f0) < (wrap64 (((rd_T33 x5_2 x11_4).f0) + ((rd_T33 x5_2 x11_4).f1)))) = false := decide_eq_false c42
                                      clear c42
                                      have H' := Aside0.mk H
                                      clear H
                                      have p134 : 0 ≤ (x10_3 : Int) := of_decide_eq_true (by first | (with_reducible assumption) | assumption)
                                      have q134 : x10_3 < (x5_2.length : Int) := of_decide_eq_true (by first | (with_reducible assumption) | assumption)
                                      obtain ⟨ad134, e134, hx134_0, hx134_1, hx134_2, hx134_3⟩ := at_T33 (Kd.R_reads' HO_5.out).2.2 x10_3 p134 q134
                                      cases e134
                                      replace p134 := eq_true p134
                                      replace q134 := eq_true q134
                                      have p135 : 0 ≤ (x11_4 : Int) := of_decide_eq_true (by first | (with_reducible assumption) | assumption)
                                      have q135 : x11_4 < (x5_2.length : Int) := of_decide_eq_true (by first | (with_reducible assumption) | assumption)
                                      obtain ⟨ad135, e135, hx135_0, hx135_1, hx135_2, hx135_3⟩ := at_T33 (Kd.R_reads' HO_5.out).2.2 x11_4 p135 q135
                                      obtain rfl : ad134 = ad135 := (by injection e135)
                                      replace p135 := eq_true p135
                                      replace q135 := eq_true q135
                                      have p136 : 0 ≤ (x11_4 : Int) := of_decide_eq_true (by first | (with_reducible assumption) | assumption)
                                      have q136 : x11_4 < (x5_2.length : Int) := of_decide_eq_true (by first | (with_reducible assumption) | assumption)
                                      obtain ⟨ad136, e136, hx136_0, hx136_1, hx136_2, hx136_3⟩ := at_T33 (Kd.R_reads' HO_5.out).2.2 x11_4 p136 q136
                                      obtain rfl : ad134 = ad136 := (by injection e136)
                                      replace p136 := eq_true p136
                                      replace q136 := eq_true q136
                                      go_wp2
                                      repeat (go_quiet (fail); try go_wp2)
                                      go_roundg k4
                                      case measure => have := HK1.out; have := HK2.out; have := HK3.out; have := HK4.out; omega
                                      case rel => exact ⟨(wrap64 (x11_4 + 1)), (by first | rfl | (simp; done) | (simp [*]; done) | (simp; exact (IntWalk.wrap64_in _ (by decide)).symm)), H', ⟨by have := HK1.out; have := HK2.out; have := HK3.out; have := HK4.out; omega⟩, ⟨by (with_reducible repeat (first | apply Kd.R_alloc | apply Kd.R_drewN | apply Kd.R_drew)); exact HO_5.out⟩, ⟨by repeat (first | (with_reducible first | exact HB.out | apply below_alloc | apply pw_below_drewN | apply below_drew1) | exact HB.out)⟩⟩
                                  · rw [if_neg c41] at H
                                    exact absurd H (by simp)
                                · rw [if_neg c40] at H
                                  exact absurd H (by simp)
                              · rw [if_neg c39] at H
                                exact absurd H (by simp)
                            · rw [if_neg c38] at H
                              exact absurd H (by simp)
                          · rw [if_neg c37] at H
                            have c37b0 : decide (x11_4 < x10_3) = false := decide_eq_false c37
                            clear c37
                            have H' := Aside0.mk H
                            clear H
                            go_wp2
                            repeat (go_quiet (fail); try go_wp2)
                            go_roundg k4
                            case measure => have := HK1.out; have := HK2.out; have := HK3.out; have := HK4.out; omega
                            case rel => exact ⟨(wrap64 (x10_3 + 1)), (by first | rfl | (simp; done) | (simp [*]; done) | (simp; exact (IntWalk.wrap64_in _ (by decide)).symm)), H', ⟨by have := HK1.out; have := HK2.out; have := HK3.out; have := HK4.out; omega⟩, ⟨by (with_reducible repeat (first | apply Kd.R_alloc | apply Kd.R_drewN | apply Kd.R_drew)); exact HO_5.out⟩, ⟨by repeat (first | (with_reducible first | exact HB.out | apply below_alloc | apply pw_below_drewN | apply below_drew1) | exact HB.out)⟩⟩
                    · rw [if_neg c35] at H
                      have c35b0 : decide (x10_3 < (x5_2.length : Int)) = false := decide_eq_false c35
                      clear c35
                      simp only [Option.some.injEq, Prod.mk.injEq] at H
                      obtain ⟨rfl, rfl⟩ := H
                      obtain ⟨Ao44, co44, eo44⟩ := Kd.R_slice HO_5.out
                      subst eo44
                      go_wp2
                      repeat (go_quiet (fail); try go_wp2)
                      go_ret2
                      exact ⟨_, by first | rfl | (simp [errW_none, errW_some] <;> rfl) | (simp [*, errW_none, errW_some] <;> rfl), by (with_reducible repeat (first | apply Kd.R_alloc | apply Kd.R_drewN | apply Kd.R_drew)); exact HO_5.out, by repeat (first | (with_reducible first | exact HB.out | apply below_alloc | apply pw_below_drewN | apply below_drew1) | exact HB.out)⟩

end Go.Proofs.Ytjkbocejdjnfiaa.IAll
