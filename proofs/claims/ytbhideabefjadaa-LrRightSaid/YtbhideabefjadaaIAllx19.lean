-- Written by the program wip/gen/inj.py of this repository, out of the translation, for this claim. Not trusted: Lean checks it.
import Derived.Test.YtbhideabefjadaaHC
import Derived.Test.YtbhideabefjadaaIAllx0
import Derived.Test.YtbhideabefjadaaIAllx7
import Derived.Test.YtbhideabefjadaaIAllx18
namespace Go.Proofs.Ytbhideabefjadaa.IAll
open Go.RowKit Go.Proofs.YtbhideabefjadaaW.PrintWords Go.Proofs.YtbhideabefjadaaW.PrintLast Go.Proofs.YtbhideabefjadaaW.PrintMore
attribute [local go_sem] max2_int min2_int max_two min_two max_three min_three max_four min_four   -- for this text's walks alone
set_option linter.unusedVariables false
set_option linter.unusedSimpArgs false

/-! ### crierlaw20_LrRight: function 8 -/
mutual
def crierlaw20_LrRight.j0 : Nat → List (S24) → Int → Int → Bool → Bool → Option (Bool)
  | 0, _, _, _, _, _ => none
  | k + 1, x0, x1, x2, x7, x21 => if x21 = true then (some x7) else (crierlaw20_LrRight.l0 k x0 x1 x2 x7 ([] : List (S24)) 0)
def crierlaw20_LrRight.l0 : Nat → List (S24) → Int → Int → Bool → List (S24) → Int → Option (Bool)
  | 0, _, _, _, _, _, _ => none
  | k + 1, x0, x1, x2, x7, x8, x9 => if x9 < (x0.length : Int) then (if (x0.length : Int) = 0 then (none) else (if x9 = (Int.tmod (wrap64 (x1)) (x0.length : Int)) then (crierlaw20_LrRight.l0 k x0 x1 x2 x7 x8 (wrap64 (x9 + 1))) else (if 0 ≤ (Int.tmod (wrap64 (x9 + (wrap64 (x2)))) (x0.length : Int)) then (if (Int.tmod (wrap64 (x9 + (wrap64 (x2)))) (x0.length : Int)) < (x0.length : Int) then (if x8.length < 2513169434916 then (crierlaw20_LrRight.l0 k x0 x1 x2 x7 (x8 ++ [(⟨(rd_T24 x0 (Int.tmod (wrap64 (x9 + (wrap64 (x2)))) (x0.length : Int))).f0, (rd_T24 x0 (Int.tmod (wrap64 (x9 + (wrap64 (x2)))) (x0.length : Int))).f1, (rd_T24 x0 (Int.tmod (wrap64 (x9 + (wrap64 (x2)))) (x0.length : Int))).f2, (rd_T24 x0 (Int.tmod (wrap64 (x9 + (wrap64 (x2)))) (x0.length : Int))).f3, (rd_T24 x0 (Int.tmod (wrap64 (x9 + (wrap64 (x2)))) (x0.length : Int))).f4, (rd_T24 x0 (Int.tmod (wrap64 (x9 + (wrap64 (x2)))) (x0.length : Int))).f5, (rd_T24 x0 (Int.tmod (wrap64 (x9 + (wrap64 (x2)))) (x0.length : Int))).f6⟩ : S24)]) (wrap64 (x9 + 1))) else (none)) else (none)) else (none)))) else (crierlaw20_LrRight.l1 k x0 x7 x8 0)
def crierlaw20_LrRight.l1 : Nat → List (S24) → Bool → List (S24) → Int → Option (Bool)
  | 0, _, _, _, _ => none
  | k + 1, x0, x7, x8, x10 => if x10 < (x0.length : Int) then (if 0 ≤ x10 then (if ((rd_T24 x0 x10).f0) = 0 then (crierlaw20_LrRight.l1 k x0 x7 x8 (wrap64 (x10 + 1))) else ((lr_Find.f x0 ((rd_T24 x0 x10).f1)).bind fun t249 => (if t249 = x10 then (crierlaw20_LrRight.l1 k x0 x7 x8 (wrap64 (x10 + 1))) else (some false)))) else (none)) else (if x7 = true then ((lr_Right.f k x8).bind fun t250 => (some (t250 == 0))) else (some false))
end
def crierlaw20_LrRight.f (k : Nat) (l0 : List (S24)) (a1 : Int) (a2 : Int) : Option (Bool) := (crierlaw20_awake.f k).bind fun t241 => (if t241 = true then ((lr_Right.f k l0).bind fun t242 => (if t242 = 0 then (crierlaw20_LrRight.j0 k l0 a1 a2 t241 ((l0.length : Int) == 0)) else (crierlaw20_LrRight.j0 k l0 a1 a2 t241 true))) else (some false))
theorem crierlaw20_LrRight.mono_l : ∀ k, (∀ y0 y1 y2 y3 y4, LeO (crierlaw20_LrRight.j0 k y0 y1 y2 y3 y4) (crierlaw20_LrRight.j0 (k + 1) y0 y1 y2 y3 y4)) ∧ (∀ y0 y1 y2 y3 y4 y5, LeO (crierlaw20_LrRight.l0 k y0 y1 y2 y3 y4 y5) (crierlaw20_LrRight.l0 (k + 1) y0 y1 y2 y3 y4 y5)) ∧ (∀ y0 y1 y2 y3, LeO (crierlaw20_LrRight.l1 k y0 y1 y2 y3) (crierlaw20_LrRight.l1 (k + 1) y0 y1 y2 y3))
  | 0 => ⟨fun _ _ _ _ _ r h => by simp [crierlaw20_LrRight.j0] at h, fun _ _ _ _ _ _ r h => by simp [crierlaw20_LrRight.l0] at h, fun _ _ _ _ r h => by simp [crierlaw20_LrRight.l1] at h⟩
  | k + 1 => by
    obtain ⟨ih0, ih1, ih2⟩ := crierlaw20_LrRight.mono_l k
    refine ⟨?_, ?_, ?_⟩
    · intro y0 y1 y2 y3 y4
      unfold crierlaw20_LrRight.j0
      repeat' first
      | (with_reducible exact ih0 _ _ _ _ _)
      | (with_reducible exact ih1 _ _ _ _ _ _)
      | (with_reducible exact ih2 _ _ _ _)
      | (with_reducible exact crierlaw20_awake.mono _)
      | (with_reducible exact lr_Right.mono _ _)
      | (with_reducible exact LeO.refl _)
      | (with_reducible exact LeO.none _)
      | (with_reducible refine LeO.ite ?_ ?_)
      | (with_reducible refine LeO.bind ?_ (fun _ => ?_))
      | exact ih0 _ _ _ _ _
      | exact ih1 _ _ _ _ _ _
      | exact ih2 _ _ _ _
      | exact crierlaw20_awake.mono _
      | exact lr_Right.mono _ _
      | exact LeO.none _
      | refine LeO.ite ?_ ?_
      | refine LeO.bind ?_ (fun _ => ?_)
    · intro y0 y1 y2 y3 y4 y5
      unfold crierlaw20_LrRight.l0
      repeat' first
      | (with_reducible exact ih0 _ _ _ _ _)
      | (with_reducible exact ih1 _ _ _ _ _ _)
      | (with_reducible exact ih2 _ _ _ _)
      | (with_reducible exact crierlaw20_awake.mono _)
      | (with_reducible exact lr_Right.mono _ _)
      | (with_reducible exact LeO.refl _)
      | (with_reducible exact LeO.none _)
      | (with_reducible refine LeO.ite ?_ ?_)
      | (with_reducible refine LeO.bind ?_ (fun _ => ?_))
      | exact ih0 _ _ _ _ _
      | exact ih1 _ _ _ _ _ _
      | exact ih2 _ _ _ _
      | exact crierlaw20_awake.mono _
      | exact lr_Right.mono _ _
      | exact LeO.none _
      | refine LeO.ite ?_ ?_
      | refine LeO.bind ?_ (fun _ => ?_)
    · intro y0 y1 y2 y3
      unfold crierlaw20_LrRight.l1
      repeat' first
      | (with_reducible exact ih0 _ _ _ _ _)
      | (with_reducible exact ih1 _ _ _ _ _ _)
      | (with_reducible exact ih2 _ _ _ _)
      | (with_reducible exact crierlaw20_awake.mono _)
      | (with_reducible exact lr_Right.mono _ _)
      | (with_reducible exact LeO.refl _)
      | (with_reducible exact LeO.none _)
      | (with_reducible refine LeO.ite ?_ ?_)
      | (with_reducible refine LeO.bind ?_ (fun _ => ?_))
      | exact ih0 _ _ _ _ _
      | exact ih1 _ _ _ _ _ _
      | exact ih2 _ _ _ _
      | exact crierlaw20_awake.mono _
      | exact lr_Right.mono _ _
      | exact LeO.none _
      | refine LeO.ite ?_ ?_
      | refine LeO.bind ?_ (fun _ => ?_)
theorem crierlaw20_LrRight.mono : ∀ a0 a1 a2 k, LeO (crierlaw20_LrRight.f k a0 a1 a2) (crierlaw20_LrRight.f (k + 1) a0 a1 a2) := by
  intro a0 a1 a2 k
  obtain ⟨ih0, ih1, ih2⟩ := crierlaw20_LrRight.mono_l k
  unfold crierlaw20_LrRight.f
  repeat' first
      | (with_reducible exact ih0 _ _ _ _ _)
      | (with_reducible exact ih1 _ _ _ _ _ _)
      | (with_reducible exact ih2 _ _ _ _)
      | (with_reducible exact crierlaw20_awake.mono _)
      | (with_reducible exact lr_Right.mono _ _)
      | (with_reducible exact LeO.refl _)
      | (with_reducible exact LeO.none _)
      | (with_reducible refine LeO.ite ?_ ?_)
      | (with_reducible refine LeO.bind ?_ (fun _ => ?_))
      | exact ih0 _ _ _ _ _
      | exact ih1 _ _ _ _ _ _
      | exact ih2 _ _ _ _
      | exact crierlaw20_awake.mono _
      | exact lr_Right.mono _ _
      | exact LeO.none _
      | refine LeO.ite ?_ ?_
      | refine LeO.bind ?_ (fun _ => ?_)
set_option maxHeartbeats 8000000 in
set_option maxRecDepth 100000 in
theorem crierlaw20_LrRight.calls (k : Nat) (A0 : Option Addr) (c0 : Nat) (l0 : List (S24)) (a1 : Int) (a2 : Int) (r : Bool) (w : World) (hr0 : Kd.C k24 w A0 l0.length l0) (hc0 : l0.length ≤ c0) (h : crierlaw20_LrRight.f k l0 a1 a2 = some r) (hT_ : Aside0 (r = true)) :
    Calls Try.prog 8 #[.slice A0 l0.length c0, .int .u8 a1, .int .u8 a2] w fun e w' => e = .returned (.bool r) ∧ Below w.heap.size w w' := by
  have hu24 := Try.underlying24
  have HR0 := Aside0.mk hr0
  have HC0 := Aside0.mk hc0
  clear hr0 hc0
  have HB := Aside0.mk (Below.refl w.heap.size w)
  have H : ((crierlaw20_awake.f k).bind fun t241 => (if t241 = true then ((lr_Right.f k l0).bind fun t242 => (if t242 = 0 then (crierlaw20_LrRight.j0 k l0 a1 a2 t241 ((l0.length : Int) == 0)) else (crierlaw20_LrRight.j0 k l0 a1 a2 t241 true))) else (some false))) = some r := h
  clear h
  replace H := Option.bind_eq_some_iff.mp H
  obtain ⟨t241, A40, H⟩ := H
  replace H : (if t241 = true then ((lr_Right.f k l0).bind fun t242 => (if t242 = 0 then (crierlaw20_LrRight.j0 k l0 a1 a2 t241 ((l0.length : Int) == 0)) else (crierlaw20_LrRight.j0 k l0 a1 a2 t241 true))) else (some false)) = some r := H
  have A4 := Aside0.mk A40
  clear A40
  by_cases c5 : t241 = true
  · subst c5
    have H1 : ((lr_Right.f k l0).bind fun t242 => (if t242 = 0 then (crierlaw20_LrRight.j0 k l0 a1 a2 true ((l0.length : Int) == 0)) else (crierlaw20_LrRight.j0 k l0 a1 a2 true true))) = some r := by first | (rw [if_pos rfl] at H; exact H) | (rw [if_pos trivial] at H; exact H)
    clear H
    have H := H1
    clear H1
    have HC6 := Aside0.mk H
    clear H
    go_enter Try.func8, Try.ntmps8
    go_upto_region 4 with (first | ((with_reducible refine gate_callee (f := 10) rfl ?_); refine goesL_ (some 11) rfl rfl Try.func10 (by kernel_rfl) rfl #[] rfl (by (try simp only [List.map_toArray, List.map_cons, List.map_nil]); first | done | rfl | (simp only [List.length_drop, List.length_take]; rfl)) ?_; (with_reducible refine (crierlaw20_awake.calls k  true _ A4.out).mono ?_); rintro e w7 ⟨rfl, hb⟩; refine ⟨_, rfl, ?_⟩; have n0_ := Aside0.mk (below_step (by repeat (first | (with_reducible first | exact HB.out | apply below_alloc | apply pw_below_drewN | apply below_drew1) | exact HB.out)) hb); clear HB; have HB := n0_; clear n0_; (try clear hb); (try clear hb2); (try clear hk); (try clear hi)))
    (try simp only [Act.put, List.setIfInBounds_toArray, List.set_cons_zero, List.set_cons_succ])
    go_cut [21] (fun v21 wc => ∃ (kq : Nat) (x21_5 : Bool), v21 = .bool x21_5 ∧ Aside0 (crierlaw20_LrRight.j0 kq l0 a1 a2 true x21_5 = some r) ∧ Aside0 (kq ≤ k) ∧ Aside0 (Below w.heap.size w wc))
    case first =>
      have H := HC6.out
      clear HC6
      replace H := Option.bind_eq_some_iff.mp H
      obtain ⟨t242, A80, H⟩ := H
      replace H : (if t242 = 0 then (crierlaw20_LrRight.j0 k l0 a1 a2 true ((l0.length : Int) == 0)) else (crierlaw20_LrRight.j0 k l0 a1 a2 true true)) = some r := H
      have A8 := Aside0.mk A80
      clear A80
      by_cases c9 : t242 = 0
      · rw [if_pos c9] at H
        have c9b0 : (t242 == 0) = true := beq_iff_eq.mpr c9
        have c9b1 : (t242 != 0) = false := bne_eq_false_iff_eq.mpr c9
        clear c9
        (first | rw [c9b0] | (simp only [i64_w, i32_w]; rw [c9b0]) | skip)
        have H' := Aside0.mk H
        clear H
        go_wp2_with (first | ((with_reducible refine gate_callee (f := 20) rfl ?_); refine goesL_ (some 15) rfl rfl Try.func20 (by kernel_rfl) rfl #[.slice A0 l0.length c0] rfl (by (try simp only [List.map_toArray, List.map_cons, List.map_nil]); first | done | rfl | (simp only [List.length_drop, List.length_take]; rfl)) ?_; (with_reducible refine (lr_Right.calls k _ _ l0 t242 _ ?side1 ?side2 A8.out).mono ?_); (case side1 => repeat (first | exact (Kd.C_below HR0.out HB.out) | (with_reducible refine Kd.C_alloc ?_ _) | (with_reducible refine Kd.C_drewN ?_ _) | (with_reducible refine Kd.C_drew ?_))); (case side2 => exact HC0.out); rintro e w10 ⟨rfl, hb⟩; refine ⟨_, rfl, ?_⟩; have n0_ := Aside0.mk (below_step (by repeat (first | (with_reducible first | exact HB.out | apply below_alloc | apply pw_below_drewN | apply below_drew1) | exact HB.out)) hb); clear HB; have HB := n0_; clear n0_; (try clear hb); (try clear hb2); (try clear hk); (try clear hi)))
        go_meet
        case rel => exact ⟨_, (((l0.length : Int) == 0)), (by first | rfl | (simp; done) | (simp [*]; done) | (simp; exact (IntWalk.wrap64_in _ (by decide)).symm)), H', ⟨by first | omega | exact Nat.le_refl _⟩, ⟨by repeat (first | (with_reducible first | exact HB.out | apply below_alloc | apply pw_below_drewN | apply below_drew1) | exact HB.out)⟩⟩
      · rw [if_neg c9] at H
        have c9b0 : (t242 == 0) = false := beq_eq_false_iff_ne.mpr c9
        have c9b1 : (t242 != 0) = true := bne_iff_ne.mpr c9
        (first | rw [c9b0] | (simp only [i64_w, i32_w]; rw [c9b0]) | skip)
        have H' := Aside0.mk H
        clear H
        go_wp2_with (first | ((with_reducible refine gate_callee (f := 20) rfl ?_); refine goesL_ (some 15) rfl rfl Try.func20 (by kernel_rfl) rfl #[.slice A0 l0.length c0] rfl (by (try simp only [List.map_toArray, List.map_cons, List.map_nil]); first | done | rfl | (simp only [List.length_drop, List.length_take]; rfl)) ?_; (with_reducible refine (lr_Right.calls k _ _ l0 t242 _ ?side1 ?side2 A8.out).mono ?_); (case side1 => repeat (first | exact (Kd.C_below HR0.out HB.out) | (with_reducible refine Kd.C_alloc ?_ _) | (with_reducible refine Kd.C_drewN ?_ _) | (with_reducible refine Kd.C_drew ?_))); (case side2 => exact HC0.out); rintro e w11 ⟨rfl, hb⟩; refine ⟨_, rfl, ?_⟩; have n0_ := Aside0.mk (below_step (by repeat (first | (with_reducible first | exact HB.out | apply below_alloc | apply pw_below_drewN | apply below_drew1) | exact HB.out)) hb); clear HB; have HB := n0_; clear n0_; (try clear hb); (try clear hb2); (try clear hk); (try clear hi)))
        go_meet
        case rel => exact ⟨_, (true), (by first | rfl | (simp; done) | (simp [*]; done) | (simp; exact (IntWalk.wrap64_in _ (by decide)).symm)), H', ⟨by first | omega | exact Nat.le_refl _⟩, ⟨by repeat (first | (with_reducible first | exact HB.out | apply below_alloc | apply pw_below_drewN | apply below_drew1) | exact HB.out)⟩⟩
    case rest =>
      clear HC6
      try clear c1
      try clear c2
      try clear p2
      try clear c5
      try clear c8
      try clear c9
      try clear c9b0
      try clear c9b1
      try clear c10
      obtain ⟨kq, x21_5, rfl, HA, HJ5, HB⟩ := hcut
      cases kq with
      | zero => exact absurd HA.out (by simp [crierlaw20_LrRight.j0])
      | succ kj5 =>
        have H := HA.out
        clear HA
        simp only [crierlaw20_LrRight.j0] at H
        by_cases c12 : x21_5 = true
        · subst c12
          have H1 : (some true) = some r := by first | (rw [if_pos rfl] at H; exact H) | (rw [if_pos trivial] at H; exact H)
          clear H
          have H := H1
          clear H1
          obtain rfl := Option.some.inj H
          go_wp2
          go_ret
          exact ⟨by first | rfl | (simp [errW_none, errW_some] <;> rfl) | (simp [*, errW_none, errW_some] <;> rfl), by repeat (first | (with_reducible first | exact HB.out | apply below_alloc | apply pw_below_drewN | apply below_drew1) | exact HB.out)⟩
        · replace c12 := Bool.eq_false_iff.mpr c12
          subst c12
          have H1 : (crierlaw20_LrRight.l0 kj5 l0 a1 a2 true ([] : List (S24)) 0) = some r := by rw [if_neg (show ¬ (false = true) by decide)] at H; exact H
          clear H
          have H := H1
          clear H1
          have H' := Aside0.mk H
          clear H
          go_wp2
          go_loopg [8, 9] kj5 (fun kq v8 v9 w' => ∃ (x8_2 : List (S24)) (x9_2 : Int), v9 = .int .i64 x9_2 ∧ Aside0 (crierlaw20_LrRight.l0 kq l0 a1 a2 true x8_2 x9_2 = some r) ∧ Aside0 (kq ≤ kj5) ∧ Aside0 (Kd.R k24 24 w' w.heap.size (fun _ => True) v8 x8_2) ∧ Aside0 (Below w.heap.size w w'))
          case atStart => exact ⟨(([] : List (S24))), (0), (by first | rfl | (simp; done) | (simp [*]; done) | (simp; exact (IntWalk.wrap64_in _ (by decide)).symm)), H', ⟨Nat.le_refl _⟩, ⟨by first | exact Kd.R_nil _ _ _ _ _ | exact Kd.N_nil _ _ _ _ _ | exact Kd.V_nil _ _ _ _ _ | exact Kd.Q_nil _ _ _ _ _ | exact Kd.S_nil _ _ _ _ _⟩, ⟨by repeat (first | (with_reducible first | exact HB.out | apply below_alloc | apply pw_below_drewN | apply below_drew1) | exact HB.out)⟩⟩
          case round =>
            clear H'
            try clear c1
            try clear c2
            try clear p2
            try clear c5
            try clear c8
            try clear c9
            try clear c9b0
            try clear c9b1
            try clear c10
            try clear c12
            try clear p2
            obtain ⟨x8_2, x9_2, rfl, HA, HK2, HO_8, HB⟩ := hrel
            cases gk with
            | zero => exact absurd HA.out (by simp [crierlaw20_LrRight.l0])
            | succ k2 =>
              have H := HA.out
              clear HA
              simp only [crierlaw20_LrRight.l0] at H
              by_cases c13 : x9_2 < (l0.length : Int)
              · rw [if_pos c13] at H
                have c13b0 : decide (x9_2 < (l0.length : Int)) = true := decide_eq_true c13
                clear c13
                by_cases c14 : (l0.length : Int) = 0
                · rw [if_pos c14] at H
                  exact absurd H (by simp)
                · rw [if_neg c14] at H
                  have c14b0 : ((l0.length : Int) == 0) = false := beq_eq_false_iff_ne.mpr c14
                  have c14b1 : ((l0.length : Int) != 0) = true := bne_iff_ne.mpr c14
                  have c14b2 : ¬ (l0 = []) := fun h_ => c14 (by rw [h_]; rfl)
                  by_cases c15 : x9_2 = (Int.tmod (wrap64 (a1)) (l0.length : Int))
                  · rw [if_pos c15] at H
                    have c15b0 : (x9_2 == (Int.tmod (wrap64 (a1)) (l0.length : Int))) = true := beq_iff_eq.mpr c15
                    have c15b1 : (x9_2 != (Int.tmod (wrap64 (a1)) (l0.length : Int))) = false := bne_eq_false_iff_eq.mpr c15
                    clear c15
                    have H' := Aside0.mk H
                    clear H
                    go_wp2
                    go_roundg k2
                    case measure => have := HJ5.out; have := HK2.out; omega
                    case rel => exact ⟨(x8_2), (wrap64 (x9_2 + 1)), (by first | rfl | (simp; done) | (simp [*]; done) | (simp; exact (IntWalk.wrap64_in _ (by decide)).symm)), H', ⟨by have := HJ5.out; have := HK2.out; omega⟩, ⟨by (with_reducible repeat (first | apply Kd.R_alloc | apply Kd.R_drewN | apply Kd.R_drew)); exact HO_8.out⟩, ⟨by repeat (first | (with_reducible first | exact HB.out | apply below_alloc | apply pw_below_drewN | apply below_drew1) | exact HB.out)⟩⟩
                  · rw [if_neg c15] at H
                    have c15b0 : (x9_2 == (Int.tmod (wrap64 (a1)) (l0.length : Int))) = false := beq_eq_false_iff_ne.mpr c15
                    have c15b1 : (x9_2 != (Int.tmod (wrap64 (a1)) (l0.length : Int))) = true := bne_iff_ne.mpr c15
                    obtain ⟨ji16, hji16⟩ : ∃ j_ : Int, (Int.tmod (wrap64 (x9_2 + (wrap64 (a2)))) (l0.length : Int)) = j_ := ⟨_, rfl⟩
                    replace H : (if 0 ≤ (ji16) then (if (ji16) < (l0.length : Int) then (if x8_2.length < 2513169434916 then (crierlaw20_LrRight.l0 k2 l0 a1 a2 true (x8_2 ++ [(⟨(rd_T24 l0 (ji16)).f0, (rd_T24 l0 (ji16)).f1, (rd_T24 l0 (ji16)).f2, (rd_T24 l0 (ji16)).f3, (rd_T24 l0 (ji16)).f4, (rd_T24 l0 (ji16)).f5, (rd_T24 l0 (ji16)).f6⟩ : S24)]) (wrap64 (x9_2 + 1))) else (none)) else (none)) else (none)) = some r := by first | (rw [hji16] at H; exact H) | (simp only [hji16] at H ⊢; exact H)
                    by_cases c17 : 0 ≤ (ji16)
                    · rw [if_pos c17] at H
                      have c17b0 : decide (0 ≤ (ji16)) = true := decide_eq_true c17
                      clear c17
                      by_cases c18 : (ji16) < (l0.length : Int)
                      · rw [if_pos c18] at H
                        have c18b0 : decide ((ji16) < (l0.length : Int)) = true := decide_eq_true c18
                        clear c18
                        by_cases c19 : x8_2.length < 2513169434916
                        · rw [if_pos c19] at H
                          have LMc19 := Aside0.mk c19
                          clear c19
                          obtain ⟨y244, hy244⟩ : ∃ y_ : List (S24), y_ = (x8_2 ++ [(⟨(rd_T24 l0 (ji16)).f0, (rd_T24 l0 (ji16)).f1, (rd_T24 l0 (ji16)).f2, (rd_T24 l0 (ji16)).f3, (rd_T24 l0 (ji16)).f4, (rd_T24 l0 (ji16)).f5, (rd_T24 l0 (ji16)).f6⟩ : S24)]) := ⟨_, rfl⟩
                          replace H : (crierlaw20_LrRight.l0 k2 l0 a1 a2 true y244 (wrap64 (x9_2 + 1))) = some r := by first | (rw [hy244]; with_reducible exact H) | (have H2_ := (Option.bind_some _ _).symm.trans H; rw [hy244]; with_reducible exact H2_) | (have H2_ := (Option.bind_some _ _).symm.trans H; with_reducible exact H2_) | with_reducible exact H | (rw [hy244]; exact H) | exact H
                          have Ny244 := Aside0.mk hy244
                          clear hy244
                          have H' := Aside0.mk H
                          clear H
                          have p243 : 0 ≤ ((ji16) : Int) := of_decide_eq_true (by first | (with_reducible assumption) | assumption)
                          have q243 : (ji16) < (l0.length : Int) := of_decide_eq_true (by first | (with_reducible assumption) | assumption)
                          obtain ⟨ad243, e243, hx243_0, hx243_1, hx243_2, hx243_3, hx243_4, hx243_5, hx243_6⟩ := at_T24 HR0.out (ji16) p243 q243
                          cases e243
                          replace hx243_0 := (HB.out.cell (World.block_lt_of_cell? w _ hx243_0)).trans hx243_0
                          replace hx243_1 := (HB.out.cell (World.block_lt_of_cell? w _ hx243_1)).trans hx243_1
                          replace hx243_2 := (HB.out.cell (World.block_lt_of_cell? w _ hx243_2)).trans hx243_2
                          replace hx243_3 := (HB.out.cell (World.block_lt_of_cell? w _ hx243_3)).trans hx243_3
                          replace hx243_4 := (HB.out.cell (World.block_lt_of_cell? w _ hx243_4)).trans hx243_4
                          replace hx243_5 := (HB.out.cell (World.block_lt_of_cell? w _ hx243_5)).trans hx243_5
                          replace hx243_6 := (HB.out.cell (World.block_lt_of_cell? w _ hx243_6)).trans hx243_6
                          replace p243 := eq_true p243
                          replace q243 := eq_true q243
                          go_wp2_with (first | ((with_reducible refine gate_builtin (b := .append) (xs := #[.tmp 36, .tmp 47]) rfl ?_); (try (refine gate_guard (by rfl) ?_; dsimp only)); at_builtin; refine Kd.R_append k24 (w0 := w) w.heap.size rfl (.tmp 36) (.tmp 47) 31 24 (.agg #[(.int .i64 0), (.int .i64 0), (.int .i64 0), (.int .i64 0), (.bool false), (.int .i64 0), (.bool false)]) 56 rfl Try.underlying31 info24 rfl (by decide) (by omega) u8 x8_2 (⟨(rd_T24 l0 (ji16)).f0, (rd_T24 l0 (ji16)).f1, (rd_T24 l0 (ji16)).f2, (rd_T24 l0 (ji16)).f3, (rd_T24 l0 (ji16)).f4, (rd_T24 l0 (ji16)).f5, (rd_T24 l0 (ji16)).f6⟩ : S24) [.int .i64 ((rd_T24 l0 (ji16)).f0), .int .i64 ((rd_T24 l0 (ji16)).f1), .int .i64 ((rd_T24 l0 (ji16)).f2), .int .i64 ((rd_T24 l0 (ji16)).f3), .bool ((rd_T24 l0 (ji16)).f4), .int .i64 ((rd_T24 l0 (ji16)).f5), .bool ((rd_T24 l0 (ji16)).f6)] (fun _ => True) (fun _ => False) rfl rfl ?aP (fun _ hk => hk.elim) ?aF ?aO ?aB ?aS ?aL ?_; (case aP => exact k24_mkM _ _ _ (⟨(rd_T24 l0 (ji16)).f0, (rd_T24 l0 (ji16)).f1, (rd_T24 l0 (ji16)).f2, (rd_T24 l0 (ji16)).f3, (rd_T24 l0 (ji16)).f4, (rd_T24 l0 (ji16)).f5, (rd_T24 l0 (ji16)).f6⟩ : S24)); (case aB => exact (by repeat (first | (with_reducible first | exact HB.out | apply below_alloc | apply pw_below_drewN | apply below_drew1) | exact HB.out))); (case aF => exact (fun _ _ => trivial)); (case aO => exact (by (with_reducible repeat (first | apply Kd.R_alloc | apply Kd.R_drewN | apply Kd.R_drew)); exact HO_8.out)); (case aS => exact (below_size (by repeat (first | (with_reducible first | exact HB.out | apply below_alloc | apply pw_below_drewN | apply below_drew1) | exact HB.out)))); (case aL => have := LMc19.out; omega); intro v245 w20 ho hb hg hat; rw [← Ny244.out] at ho; have n0_ := Aside0.mk (hb); have n1_ := Aside0.mk (ho); clear HB; clear HO_8; have HB := n0_; have HO246 := n1_; clear n0_ n1_; clear ho hb hg hat))
                          go_roundg k2
                          case measure => have := HJ5.out; have := HK2.out; omega
                          case rel => exact ⟨(y244), (wrap64 (x9_2 + 1)), (by first | rfl | (simp; done) | (simp [*]; done) | (simp; exact (IntWalk.wrap64_in _ (by decide)).symm)), H', ⟨by have := HJ5.out; have := HK2.out; omega⟩, ⟨by (with_reducible repeat (first | apply Kd.R_alloc | apply Kd.R_drewN | apply Kd.R_drew)); exact HO246.out⟩, ⟨by repeat (first | (with_reducible first | exact HB.out | apply below_alloc | apply pw_below_drewN | apply below_drew1) | exact HB.out)⟩⟩
                        · rw [if_neg c19] at H
                          exact absurd H (by simp)
                      · rw [if_neg c18] at H
                        exact absurd H (by simp)
                    · rw [if_neg c17] at H
                      exact absurd H (by simp)
              · rw [if_neg c13] at H
                have c13b0 : decide (x9_2 < (l0.length : Int)) = false := decide_eq_false c13
                clear c13
                have H' := Aside0.mk H
                clear H
                go_wp2
                go_loopg [10] k2 (fun kq v10 w' => ∃ (x10_3 : Int), v10 = .int .i64 x10_3 ∧ Aside0 (crierlaw20_LrRight.l1 kq l0 true x8_2 x10_3 = some r) ∧ Aside0 (kq ≤ k2) ∧ Aside0 (Kd.R k24 24 w' w.heap.size (fun _ => True) u8 x8_2) ∧ Aside0 (Below w.heap.size w w'))
                case atStart => exact ⟨(0), (by first | rfl | (simp; done) | (simp [*]; done) | (simp; exact (IntWalk.wrap64_in _ (by decide)).symm)), H', ⟨Nat.le_refl _⟩, ⟨by (with_reducible repeat (first | apply Kd.R_alloc | apply Kd.R_drewN | apply Kd.R_drew)); exact HO_8.out⟩, ⟨by repeat (first | (with_reducible first | exact HB.out | apply below_alloc | apply pw_below_drewN | apply below_drew1) | exact HB.out)⟩⟩
                case round =>
                  clear H'
                  try clear c1
                  try clear c2
                  try clear p2
                  try clear q2
                  try clear hx2
                  try clear c5
                  try clear p6
                  try clear c8
                  try clear c9
                  try clear c9b0
                  try clear c9b1
                  try clear c10
                  try clear c12
                  try clear c13
                  try clear c13b0
                  try clear c14
                  try clear c14b0
                  try clear c14b1
                  try clear c14b2
                  try clear c15
                  try clear c15b0
                  try clear c15b1
                  try clear c17
                  try clear c17b0
                  try clear c18
                  try clear c18b0
                  try clear c19
                  try clear c20
                  try clear hx243_0
                  try clear hx243_1
                  try clear hx243_2
                  try clear hx243_3
                  try clear hx243_4
                  try clear hx243_5
                  try clear hx243_6
                  try clear p2
                  try clear p243
                  try clear q243
                  obtain ⟨x10_3, rfl, HA, HK3, HO_8, HB⟩ := hrel
                  cases gk with
                  | zero => exact absurd HA.out (by simp [crierlaw20_LrRight.l1])
                  | succ k3 =>
                    have H := HA.out
                    clear HA
                    simp only [crierlaw20_LrRight.l1] at H
                    by_cases c21 : x10_3 < (l0.length : Int)
                    · rw [if_pos c21] at H
                      have c21b0 : decide (x10_3 < (l0.length : Int)) = true := decide_eq_true c21
                      clear c21
                      by_cases c22 : 0 ≤ x10_3
                      · rw [if_pos c22] at H
                        have c22b0 : decide (0 ≤ x10_3) = true := decide_eq_true c22
                        clear c22
                        by_cases c23 : ((rd_T24 l0 x10_3).f0) = 0
                        · rw [if_pos c23] at H
                          have c23b0 : (((rd_T24 l0 x10_3).f0) == 0) = true := beq_iff_eq.mpr c23
                          have c23b1 : (((rd_T24 l0 x10_3).f0) != 0) = false := bne_eq_false_iff_eq.mpr c23
                          clear c23
                          have H' := Aside0.mk H
                          clear H
                          have p247 : 0 ≤ (x10_3 : Int) := of_decide_eq_true (by first | (with_reducible assumption) | assumption)
                          have q247 : x10_3 < (l0.length : Int) := of_decide_eq_true (by first | (with_reducible assumption) | assumption)
                          obtain ⟨ad247, e247, hx247_0, hx247_1, hx247_2, hx247_3, hx247_4, hx247_5, hx247_6⟩ := at_T24 HR0.out x10_3 p247 q247
                          cases e247
                          replace hx247_0 := (HB.out.cell (World.block_lt_of_cell? w _ hx247_0)).trans hx247_0
                          replace hx247_1 := (HB.out.cell (World.block_lt_of_cell? w _ hx247_1)).trans hx247_1
                          replace hx247_2 := (HB.out.cell (World.block_lt_of_cell? w _ hx247_2)).trans hx247_2
                          replace hx247_3 := (HB.out.cell (World.block_lt_of_cell? w _ hx247_3)).trans hx247_3
                          replace hx247_4 := (HB.out.cell (World.block_lt_of_cell? w _ hx247_4)).trans hx247_4
                          replace hx247_5 := (HB.out.cell (World.block_lt_of_cell? w _ hx247_5)).trans hx247_5
                          replace hx247_6 := (HB.out.cell (World.block_lt_of_cell? w _ hx247_6)).trans hx247_6
                          replace p247 := eq_true p247
                          replace q247 := eq_true q247
                          go_wp2
                          go_roundg k3
                          case measure => have := HJ5.out; have := HK2.out; have := HK3.out; omega
                          case rel => exact ⟨(wrap64 (x10_3 + 1)), (by first | rfl | (simp; done) | (simp [*]; done) | (simp; exact (IntWalk.wrap64_in _ (by decide)).symm)), H', ⟨by have := HJ5.out; have := HK2.out; have := HK3.out; omega⟩, ⟨by (with_reducible repeat (first | apply Kd.R_alloc | apply Kd.R_drewN | apply Kd.R_drew)); exact HO_8.out⟩, ⟨by repeat (first | (with_reducible first | exact HB.out | apply below_alloc | apply pw_below_drewN | apply below_drew1) | exact HB.out)⟩⟩
                        · rw [if_neg c23] at H
                          have c23b0 : (((rd_T24 l0 x10_3).f0) == 0) = false := beq_eq_false_iff_ne.mpr c23
                          have c23b1 : (((rd_T24 l0 x10_3).f0) != 0) = true := bne_iff_ne.mpr c23
                          replace H := Option.bind_eq_some_iff.mp H
                          obtain ⟨t249, A240, H⟩ := H
                          replace H : (if t249 = x10_3 then (crierlaw20_LrRight.l1 k3 l0 true x8_2 (wrap64 (x10_3 + 1))) else (some false)) = some r := H
                          have A24 := Aside0.mk A240
                          clear A240
                          by_cases c25 : t249 = x10_3
                          · rw [if_pos c25] at H
                            have c25b0 : (t249 == x10_3) = true := beq_iff_eq.mpr c25
                            have c25b1 : (t249 != x10_3) = false := bne_eq_false_iff_eq.mpr c25
                            clear c25
                            have H' := Aside0.mk H
                            clear H
                            have p247 : 0 ≤ (x10_3 : Int) := of_decide_eq_true (by first | (with_reducible assumption) | assumption)
                            have q247 : x10_3 < (l0.length : Int) := of_decide_eq_true (by first | (with_reducible assumption) | assumption)
                            obtain ⟨ad247, e247, hx247_0, hx247_1, hx247_2, hx247_3, hx247_4, hx247_5, hx247_6⟩ := at_T24 HR0.out x10_3 p247 q247
                            cases e247
                            replace hx247_0 := (HB.out.cell (World.block_lt_of_cell? w _ hx247_0)).trans hx247_0
                            replace hx247_1 := (HB.out.cell (World.block_lt_of_cell? w _ hx247_1)).trans hx247_1
                            replace hx247_2 := (HB.out.cell (World.block_lt_of_cell? w _ hx247_2)).trans hx247_2
                            replace hx247_3 := (HB.out.cell (World.block_lt_of_cell? w _ hx247_3)).trans hx247_3
                            replace hx247_4 := (HB.out.cell (World.block_lt_of_cell? w _ hx247_4)).trans hx247_4
                            replace hx247_5 := (HB.out.cell (World.block_lt_of_cell? w _ hx247_5)).trans hx247_5
                            replace hx247_6 := (HB.out.cell (World.block_lt_of_cell? w _ hx247_6)).trans hx247_6
                            replace p247 := eq_true p247
                            replace q247 := eq_true q247
                            have p248 : 0 ≤ (x10_3 : Int) := of_decide_eq_true (by first | (with_reducible assumption) | assumption)
                            have q248 : x10_3 < (l0.length : Int) := of_decide_eq_true (by first | (with_reducible assumption) | assumption)
                            obtain ⟨ad248, e248, hx248_0, hx248_1, hx248_2, hx248_3, hx248_4, hx248_5, hx248_6⟩ := at_T24 HR0.out x10_3 p248 q248
                            obtain rfl : ad247 = ad248 := (by injection e248)
                            replace hx248_0 := (HB.out.cell (World.block_lt_of_cell? w _ hx248_0)).trans hx248_0
                            replace hx248_1 := (HB.out.cell (World.block_lt_of_cell? w _ hx248_1)).trans hx248_1
                            replace hx248_2 := (HB.out.cell (World.block_lt_of_cell? w _ hx248_2)).trans hx248_2
                            replace hx248_3 := (HB.out.cell (World.block_lt_of_cell? w _ hx248_3)).trans hx248_3
                            replace hx248_4 := (HB.out.cell (World.block_lt_of_cell? w _ hx248_4)).trans hx248_4
                            replace hx248_5 := (HB.out.cell (World.block_lt_of_cell? w _ hx248_5)).trans hx248_5
                            replace hx248_6 := (HB.out.cell (World.block_lt_of_cell? w _ hx248_6)).trans hx248_6
                            replace p248 := eq_true p248
                            replace q248 := eq_true q248
                            go_wp2_with (first | (go_at_call 21; (with_reducible refine (lr_Find.calls _ _ l0 ((rd_T24 l0 x10_3).f1) t249 _ ?side1 ?side2 A24.out).mono ?_); (case side1 => repeat (first | exact (Kd.C_below HR0.out HB.out) | (with_reducible refine Kd.C_alloc ?_ _) | (with_reducible refine Kd.C_drewN ?_ _) | (with_reducible refine Kd.C_drew ?_))); (case side2 => exact HC0.out); rintro e w26 ⟨rfl, hb⟩; have n0_ := Aside0.mk (Kd.R_below (by (with_reducible repeat (first | apply Kd.R_alloc | apply Kd.R_drewN | apply Kd.R_drew)); exact HO_8.out) hb); have n1_ := Aside0.mk (below_step (by repeat (first | (with_reducible first | exact HB.out | apply below_alloc | apply pw_below_drewN | apply below_drew1) | exact HB.out)) hb); clear HO_8; clear HB; have HO_8 := n0_; have HB := n1_; clear n0_ n1_; (try clear hb); (try clear hb2); (try clear hk); (try clear hi)))
                            go_roundg k3
                            case measure => have := HJ5.out; have := HK2.out; have := HK3.out; omega
                            case rel => exact ⟨(wrap64 (x10_3 + 1)), (by first | rfl | (simp; done) | (simp [*]; done) | (simp; exact (IntWalk.wrap64_in _ (by decide)).symm)), H', ⟨by have := HJ5.out; have := HK2.out; have := HK3.out; omega⟩, ⟨by (with_reducible repeat (first | apply Kd.R_alloc | apply Kd.R_drewN | apply Kd.R_drew)); exact HO_8.out⟩, ⟨by repeat (first | (with_reducible first | exact HB.out | apply below_alloc | apply pw_below_drewN | apply below_drew1) | exact HB.out)⟩⟩
                          · rw [if_neg c25] at H
                            have c25b0 : (t249 == x10_3) = false := beq_eq_false_iff_ne.mpr c25
                            have c25b1 : (t249 != x10_3) = true := bne_iff_ne.mpr c25
                            obtain rfl := Option.some.inj H
                            exact absurd hT_.out (by simp)
                      · rw [if_neg c22] at H
                        exact absurd H (by simp)
                    · rw [if_neg c21] at H
                      have c21b0 : decide (x10_3 < (l0.length : Int)) = false := decide_eq_false c21
                      clear c21
                      by_cases c28 : true = true
                      · clear c28
                        have H1 : ((lr_Right.f k3 x8_2).bind fun t250 => (some (t250 == 0))) = some r := by first | (rw [if_pos rfl] at H; exact H) | (rw [if_pos trivial] at H; exact H)
                        clear H
                        have H := H1
                        clear H1
                        replace H := Option.bind_eq_some_iff.mp H
                        obtain ⟨t250, A290, H⟩ := H
                        replace H : (some (t250 == 0)) = some r := H
                        have A29 := Aside0.mk A290
                        clear A290
                        obtain rfl := Option.some.inj H
                        obtain ⟨Ao30, co30, eo30⟩ := Kd.R_slice HO_8.out
                        subst eo30
                        go_wp2_with (first | (go_at_call 20; (with_reducible refine (lr_Right.calls k3 _ _ x8_2 t250 _ ?side1 ?side2 A29.out).mono ?_); (case side1 => repeat (first | exact (Kd.R_reads' HO_8.out).2.2 | (with_reducible refine Kd.C_alloc ?_ _) | (with_reducible refine Kd.C_drewN ?_ _) | (with_reducible refine Kd.C_drew ?_))); (case side2 => exact (Kd.R_reads' HO_8.out).2.1); rintro e w31 ⟨rfl, hb⟩; have n0_ := Aside0.mk (Kd.R_below (by (with_reducible repeat (first | apply Kd.R_alloc | apply Kd.R_drewN | apply Kd.R_drew)); exact HO_8.out) hb); have n1_ := Aside0.mk (below_step (by repeat (first | (with_reducible first | exact HB.out | apply below_alloc | apply pw_below_drewN | apply below_drew1) | exact HB.out)) hb); clear HO_8; clear HB; have HO_8 := n0_; have HB := n1_; clear n0_ n1_; (try clear hb); (try clear hb2); (try clear hk); (try clear hi)))
                        go_ret
                        exact ⟨by first | rfl | (simp [errW_none, errW_some] <;> rfl) | (simp [*, errW_none, errW_some] <;> rfl), by repeat (first | (with_reducible first | exact HB.out | apply below_alloc | apply pw_below_drewN | apply below_drew1) | exact HB.out)⟩
                      · exact absurd rfl c28
  · replace c5 := Bool.eq_false_iff.mpr c5
    subst c5
    have H1 : (some false) = some r := by rw [if_neg (show ¬ (false = true) by decide)] at H; exact H
    clear H
    have H := H1
    clear H1
    obtain rfl := Option.some.inj H
    exact absurd hT_.out (by simp)

end Go.Proofs.Ytbhideabefjadaa.IAll
