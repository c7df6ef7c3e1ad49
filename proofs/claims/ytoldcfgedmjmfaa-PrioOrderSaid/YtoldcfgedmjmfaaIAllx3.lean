-- Written by the program wip/gen/inj.py of this repository, out of the translation, for this claim. Not trusted: Lean checks it.
import Derived.Test.YtoldcfgedmjmfaaIAllx0
import Derived.Test.YtoldcfgedmjmfaaIAllx1
import Derived.Test.YtoldcfgedmjmfaaIAllx2
namespace Go.Proofs.Ytoldcfgedmjmfaa.IAll
open Go.RowKit Go.Proofs.YtoldcfgedmjmfaaW.PrintWords Go.Proofs.YtoldcfgedmjmfaaW.PrintLast Go.Proofs.YtoldcfgedmjmfaaW.PrintMore
attribute [local go_sem] max2_int min2_int max_two min_two max_three min_three max_four min_four   -- for this text's walks alone
set_option linter.unusedVariables false
set_option linter.unusedSimpArgs false

/-! ### crierlaw06_PrioHigher: function 6 -/
def crierlaw06_PrioHigher.j0 : Nat → Int → Int → Int → Int → Bool → Option (Bool)
  | 0, _, _, _, _, _ => none
  | k + 1, x3, x4, x13, x15, x49 => if x49 = true then (some false) else ((prio_Mask.f x3 (mn 7 (wrap64 ((Go.bits .and .i64 x4 7) + 1)))).bind fun t125 => ((crierlaw06_awake.f).bind fun t126 => (if t126 = true then (if (Go.bits .and .i64 x4 7) = 7 then (some ((Go.bits .and .i64 t125 x15) == t125)) else ((prio_Level.f x13 t125).bind fun t127 => ((prio_Level.f x13 x15).bind fun t128 => (if t127 ≤ t128 then (some ((Go.bits .and .i64 t125 x15) == t125)) else (some false))))) else (some false))))
def crierlaw06_PrioHigher.f (k : Nat) (a0 : Int) (a1 : Int) (a2 : Int) (a3 : Int) (a4 : Int) (a5 : Int) : Option (Bool) := (prio_Mask.f a3 a4).bind fun t118 => ((prio_Preempts.f (wrap64 (mx a0 a1)) a2 t118).bind fun t119 => (if t119 = true then ((prio_Preempts.f (wrap64 (mn a0 a1)) a2 t118).bind fun t120 => (if t120 = true then ((prio_Passes.f (wrap64 (mx a0 a1)) a5).bind fun t121 => (if t121 = true then ((prio_Passes.f (wrap64 (mn a0 a1)) a5).bind fun t122 => (crierlaw06_PrioHigher.j0 k a3 a4 (wrap64 (mn a0 a1)) t118 (!t122))) else (crierlaw06_PrioHigher.j0 k a3 a4 (wrap64 (mn a0 a1)) t118 false))) else (crierlaw06_PrioHigher.j0 k a3 a4 (wrap64 (mn a0 a1)) t118 true))) else ((prio_Passes.f (wrap64 (mx a0 a1)) a5).bind fun t123 => (if t123 = true then ((prio_Passes.f (wrap64 (mn a0 a1)) a5).bind fun t124 => (crierlaw06_PrioHigher.j0 k a3 a4 (wrap64 (mn a0 a1)) t118 (!t124))) else (crierlaw06_PrioHigher.j0 k a3 a4 (wrap64 (mn a0 a1)) t118 false)))))
theorem crierlaw06_PrioHigher.mono_l : ∀ k, (∀ y0 y1 y2 y3 y4, LeO (crierlaw06_PrioHigher.j0 k y0 y1 y2 y3 y4) (crierlaw06_PrioHigher.j0 (k + 1) y0 y1 y2 y3 y4))
  | 0 => fun _ _ _ _ _ r h => by simp [crierlaw06_PrioHigher.j0] at h
  | k + 1 => by
    have ih0 := crierlaw06_PrioHigher.mono_l k
    · intro y0 y1 y2 y3 y4
      unfold crierlaw06_PrioHigher.j0
      repeat' first
      | (with_reducible exact ih0 _ _ _ _ _)
      | (with_reducible exact LeO.refl _)
      | (with_reducible exact LeO.none _)
      | (with_reducible refine LeO.ite ?_ ?_)
      | (with_reducible refine LeO.bind ?_ (fun _ => ?_))
      | exact ih0 _ _ _ _ _
      | exact LeO.none _
      | refine LeO.ite ?_ ?_
      | refine LeO.bind ?_ (fun _ => ?_)
theorem crierlaw06_PrioHigher.mono : ∀ a0 a1 a2 a3 a4 a5 k, LeO (crierlaw06_PrioHigher.f k a0 a1 a2 a3 a4 a5) (crierlaw06_PrioHigher.f (k + 1) a0 a1 a2 a3 a4 a5) := by
  intro a0 a1 a2 a3 a4 a5 k
  have ih0 := crierlaw06_PrioHigher.mono_l k
  unfold crierlaw06_PrioHigher.f
  repeat' first
      | (with_reducible exact ih0 _ _ _ _ _)
      | (with_reducible exact LeO.refl _)
      | (with_reducible exact LeO.none _)
      | (with_reducible refine LeO.ite ?_ ?_)
      | (with_reducible refine LeO.bind ?_ (fun _ => ?_))
      | exact ih0 _ _ _ _ _
      | exact LeO.none _
      | refine LeO.ite ?_ ?_
      | refine LeO.bind ?_ (fun _ => ?_)
set_option maxHeartbeats 8000000 in
set_option maxRecDepth 100000 in
theorem crierlaw06_PrioHigher.calls (k : Nat) (a0 : Int) (a1 : Int) (a2 : Int) (a3 : Int) (a4 : Int) (a5 : Int) (r : Bool) (w : World) (h : crierlaw06_PrioHigher.f k a0 a1 a2 a3 a4 a5 = some r) :
    Calls Try.prog 6 #[.int .u8 a0, .int .u8 a1, .int .i64 a2, .int .i64 a3, .int .i64 a4, .int .i64 a5] w fun e w' => e = .returned (.bool r) ∧ Below w.heap.size w w' := by
  have HB := Aside0.mk (Below.refl w.heap.size w)
  have H : ((prio_Mask.f a3 a4).bind fun t118 => ((prio_Preempts.f (wrap64 (mx a0 a1)) a2 t118).bind fun t119 => (if t119 = true then ((prio_Preempts.f (wrap64 (mn a0 a1)) a2 t118).bind fun t120 => (if t120 = true then ((prio_Passes.f (wrap64 (mx a0 a1)) a5).bind fun t121 => (if t121 = true then ((prio_Passes.f (wrap64 (mn a0 a1)) a5).bind fun t122 => (crierlaw06_PrioHigher.j0 k a3 a4 (wrap64 (mn a0 a1)) t118 (!t122))) else (crierlaw06_PrioHigher.j0 k a3 a4 (wrap64 (mn a0 a1)) t118 false))) else (crierlaw06_PrioHigher.j0 k a3 a4 (wrap64 (mn a0 a1)) t118 true))) else ((prio_Passes.f (wrap64 (mx a0 a1)) a5).bind fun t123 => (if t123 = true then ((prio_Passes.f (wrap64 (mn a0 a1)) a5).bind fun t124 => (crierlaw06_PrioHigher.j0 k a3 a4 (wrap64 (mn a0 a1)) t118 (!t124))) else (crierlaw06_PrioHigher.j0 k a3 a4 (wrap64 (mn a0 a1)) t118 false)))))) = some r := h
  clear h
  obtain ⟨ji7, hji7⟩ : ∃ j_ : Int, (mn a0 a1) = j_ := ⟨_, rfl⟩
  replace H : ((prio_Mask.f a3 a4).bind fun t118 => ((prio_Preempts.f (wrap64 (mx a0 a1)) a2 t118).bind fun t119 => (if t119 = true then ((prio_Preempts.f (wrap64 (ji7)) a2 t118).bind fun t120 => (if t120 = true then ((prio_Passes.f (wrap64 (mx a0 a1)) a5).bind fun t121 => (if t121 = true then ((prio_Passes.f (wrap64 (ji7)) a5).bind fun t122 => (crierlaw06_PrioHigher.j0 k a3 a4 (wrap64 (ji7)) t118 (!t122))) else (crierlaw06_PrioHigher.j0 k a3 a4 (wrap64 (ji7)) t118 false))) else (crierlaw06_PrioHigher.j0 k a3 a4 (wrap64 (ji7)) t118 true))) else ((prio_Passes.f (wrap64 (mx a0 a1)) a5).bind fun t123 => (if t123 = true then ((prio_Passes.f (wrap64 (ji7)) a5).bind fun t124 => (crierlaw06_PrioHigher.j0 k a3 a4 (wrap64 (ji7)) t118 (!t124))) else (crierlaw06_PrioHigher.j0 k a3 a4 (wrap64 (ji7)) t118 false)))))) = some r := by first | (rw [hji7] at H; exact H) | (simp only [hji7] at H ⊢; exact H)
  have hji7_ : (if a1 < a0 then a1 else a0) = ji7 := hji7
  obtain ⟨ji8, hji8⟩ : ∃ j_ : Int, (mx a0 a1) = j_ := ⟨_, rfl⟩
  replace H : ((prio_Mask.f a3 a4).bind fun t118 => ((prio_Preempts.f (wrap64 (ji8)) a2 t118).bind fun t119 => (if t119 = true then ((prio_Preempts.f (wrap64 (ji7)) a2 t118).bind fun t120 => (if t120 = true then ((prio_Passes.f (wrap64 (ji8)) a5).bind fun t121 => (if t121 = true then ((prio_Passes.f (wrap64 (ji7)) a5).bind fun t122 => (crierlaw06_PrioHigher.j0 k a3 a4 (wrap64 (ji7)) t118 (!t122))) else (crierlaw06_PrioHigher.j0 k a3 a4 (wrap64 (ji7)) t118 false))) else (crierlaw06_PrioHigher.j0 k a3 a4 (wrap64 (ji7)) t118 true))) else ((prio_Passes.f (wrap64 (ji8)) a5).bind fun t123 => (if t123 = true then ((prio_Passes.f (wrap64 (ji7)) a5).bind fun t124 => (crierlaw06_PrioHigher.j0 k a3 a4 (wrap64 (ji7)) t118 (!t124))) else (crierlaw06_PrioHigher.j0 k a3 a4 (wrap64 (ji7)) t118 false)))))) = some r := by first | (rw [hji8] at H; exact H) | (simp only [hji8] at H ⊢; exact H)
  have hji8_ : (if a0 < a1 then a1 else a0) = ji8 := hji8
  replace H := Option.bind_eq_some_iff.mp H
  obtain ⟨t118, A90, H⟩ := H
  replace H : ((prio_Preempts.f (wrap64 (ji8)) a2 t118).bind fun t119 => (if t119 = true then ((prio_Preempts.f (wrap64 (ji7)) a2 t118).bind fun t120 => (if t120 = true then ((prio_Passes.f (wrap64 (ji8)) a5).bind fun t121 => (if t121 = true then ((prio_Passes.f (wrap64 (ji7)) a5).bind fun t122 => (crierlaw06_PrioHigher.j0 k a3 a4 (wrap64 (ji7)) t118 (!t122))) else (crierlaw06_PrioHigher.j0 k a3 a4 (wrap64 (ji7)) t118 false))) else (crierlaw06_PrioHigher.j0 k a3 a4 (wrap64 (ji7)) t118 true))) else ((prio_Passes.f (wrap64 (ji8)) a5).bind fun t123 => (if t123 = true then ((prio_Passes.f (wrap64 (ji7)) a5).bind fun t124 => (crierlaw06_PrioHigher.j0 k a3 a4 (wrap64 (ji7)) t118 (!t124))) else (crierlaw06_PrioHigher.j0 k a3 a4 (wrap64 (ji7)) t118 false))))) = some r := H
  have A9 := Aside0.mk A90
  clear A90
  have HC10 := Aside0.mk H
  clear H
  go_enter Try.func6, Try.ntmps6
  go_upto_region 3 with (first | ((with_reducible refine gate_callee (f := 13) rfl ?_); refine goesL_ (some 27) rfl rfl Try.func13 (by kernel_rfl) rfl #[.int .i64 a3, .int .i64 a4] rfl (by (try simp only [List.map_toArray, List.map_cons, List.map_nil]); first | done | rfl | (simp only [List.length_drop, List.length_take]; rfl)) ?_; (with_reducible refine (prio_Mask.calls a3 a4 t118 _ A9.out).mono ?_); rintro e w11 ⟨rfl, hb⟩; refine ⟨_, rfl, ?_⟩; have n0_ := Aside0.mk (below_step (by repeat (first | (with_reducible first | exact HB.out | apply below_alloc | apply pw_below_drewN | apply below_drew1) | exact HB.out)) hb); clear HB; have HB := n0_; clear n0_; (try clear hb); (try clear hb2); (try clear hk); (try clear hi)))
  (try simp only [Act.put, List.setIfInBounds_toArray, List.set_cons_zero, List.set_cons_succ])
  go_cut [49] (fun v49 wc => ∃ (kq : Nat) (x49_9 : Bool), v49 = .bool x49_9 ∧ Aside0 (crierlaw06_PrioHigher.j0 kq a3 a4 (wrap64 (ji7)) t118 x49_9 = some r) ∧ Aside0 (kq ≤ k) ∧ Aside0 (Below w.heap.size w wc))
  case first =>
    have H := HC10.out
    clear HC10
    replace H := Option.bind_eq_some_iff.mp H
    obtain ⟨t119, A120, H⟩ := H
    replace H : (if t119 = true then ((prio_Preempts.f (wrap64 (ji7)) a2 t118).bind fun t120 => (if t120 = true then ((prio_Passes.f (wrap64 (ji8)) a5).bind fun t121 => (if t121 = true then ((prio_Passes.f (wrap64 (ji7)) a5).bind fun t122 => (crierlaw06_PrioHigher.j0 k a3 a4 (wrap64 (ji7)) t118 (!t122))) else (crierlaw06_PrioHigher.j0 k a3 a4 (wrap64 (ji7)) t118 false))) else (crierlaw06_PrioHigher.j0 k a3 a4 (wrap64 (ji7)) t118 true))) else ((prio_Passes.f (wrap64 (ji8)) a5).bind fun t123 => (if t123 = true then ((prio_Passes.f (wrap64 (ji7)) a5).bind fun t124 => (crierlaw06_PrioHigher.j0 k a3 a4 (wrap64 (ji7)) t118 (!t124))) else (crierlaw06_PrioHigher.j0 k a3 a4 (wrap64 (ji7)) t118 false)))) = some r := H
    have A12 := Aside0.mk A120
    clear A120
    by_cases c13 : t119 = true
    · subst c13
      have H1 : ((prio_Preempts.f (wrap64 (ji7)) a2 t118).bind fun t120 => (if t120 = true then ((prio_Passes.f (wrap64 (ji8)) a5).bind fun t121 => (if t121 = true then ((prio_Passes.f (wrap64 (ji7)) a5).bind fun t122 => (crierlaw06_PrioHigher.j0 k a3 a4 (wrap64 (ji7)) t118 (!t122))) else (crierlaw06_PrioHigher.j0 k a3 a4 (wrap64 (ji7)) t118 false))) else (crierlaw06_PrioHigher.j0 k a3 a4 (wrap64 (ji7)) t118 true))) = some r := by rw [if_pos rfl] at H; exact H
      clear H
      have H := H1
      clear H1
      replace H := Option.bind_eq_some_iff.mp H
      obtain ⟨t120, A140, H⟩ := H
      replace H : (if t120 = true then ((prio_Passes.f (wrap64 (ji8)) a5).bind fun t121 => (if t121 = true then ((prio_Passes.f (wrap64 (ji7)) a5).bind fun t122 => (crierlaw06_PrioHigher.j0 k a3 a4 (wrap64 (ji7)) t118 (!t122))) else (crierlaw06_PrioHigher.j0 k a3 a4 (wrap64 (ji7)) t118 false))) else (crierlaw06_PrioHigher.j0 k a3 a4 (wrap64 (ji7)) t118 true)) = some r := H
      have A14 := Aside0.mk A140
      clear A140
      by_cases c15 : t120 = true
      · subst c15
        have H1 : ((prio_Passes.f (wrap64 (ji8)) a5).bind fun t121 => (if t121 = true then ((prio_Passes.f (wrap64 (ji7)) a5).bind fun t122 => (crierlaw06_PrioHigher.j0 k a3 a4 (wrap64 (ji7)) t118 (!t122))) else (crierlaw06_PrioHigher.j0 k a3 a4 (wrap64 (ji7)) t118 false))) = some r := by rw [if_pos rfl] at H; exact H
        clear H
        have H := H1
        clear H1
        replace H := Option.bind_eq_some_iff.mp H
        obtain ⟨t121, A160, H⟩ := H
        replace H : (if t121 = true then ((prio_Passes.f (wrap64 (ji7)) a5).bind fun t122 => (crierlaw06_PrioHigher.j0 k a3 a4 (wrap64 (ji7)) t118 (!t122))) else (crierlaw06_PrioHigher.j0 k a3 a4 (wrap64 (ji7)) t118 false)) = some r := H
        have A16 := Aside0.mk A160
        clear A160
        by_cases c17 : t121 = true
        · subst c17
          have H1 : ((prio_Passes.f (wrap64 (ji7)) a5).bind fun t122 => (crierlaw06_PrioHigher.j0 k a3 a4 (wrap64 (ji7)) t118 (!t122))) = some r := by rw [if_pos rfl] at H; exact H
          clear H
          have H := H1
          clear H1
          replace H := Option.bind_eq_some_iff.mp H
          obtain ⟨t122, A180, H⟩ := H
          replace H : (crierlaw06_PrioHigher.j0 k a3 a4 (wrap64 (ji7)) t118 (!t122)) = some r := H
          have A18 := Aside0.mk A180
          clear A180
          have H' := Aside0.mk H
          clear H
          go_wp2_with (first | ((with_reducible refine gate_callee (f := 16) rfl ?_); refine goesL_ (some 31) rfl rfl Try.func16 (by kernel_rfl) rfl #[.int .i64 (wrap64 (ji8)), .int .i64 a2, .int .i64 t118] rfl (by (try simp only [List.map_toArray, List.map_cons, List.map_nil]); first | done | (simp only [hji8]; rfl) | rfl | (simp only [List.length_drop, List.length_take]; rfl)) ?_; (with_reducible refine (prio_Preempts.calls (wrap64 (ji8)) a2 t118 true _ A12.out).mono ?_); rintro e w' ⟨rfl, ⟨nd, rfl⟩⟩; refine ⟨_, rfl, ?_⟩) | (go_at_call 16; (with_reducible refine (prio_Preempts.calls (wrap64 (ji7)) a2 t118 true _ A14.out).mono ?_); rintro e w' ⟨rfl, ⟨nd, rfl⟩⟩) | (go_at_call 17; (with_reducible refine (prio_Passes.calls (wrap64 (ji8)) a5 true _ A16.out).mono ?_); rintro e w' ⟨rfl, ⟨nd, rfl⟩⟩) | (go_at_call 17; (with_reducible refine (prio_Passes.calls (wrap64 (ji7)) a5 t122 _ A18.out).mono ?_); rintro e w' ⟨rfl, ⟨nd, rfl⟩⟩))
          go_meet
          case rel => exact ⟨_, (!t122), (by first | rfl | (simp; done) | (simp [*]; done)), H', ⟨by first | omega | exact Nat.le_refl _⟩, ⟨by repeat (first | (with_reducible first | exact HB.out | apply below_alloc | apply pw_below_drewN | apply below_drew1) | exact HB.out)⟩⟩
        · replace c17 := Bool.eq_false_iff.mpr c17
          subst c17
          have H1 : (crierlaw06_PrioHigher.j0 k a3 a4 (wrap64 (ji7)) t118 false) = some r := by rw [if_neg (show ¬ (false = true) by decide)] at H; exact H
          clear H
          have H := H1
          clear H1
          have H' := Aside0.mk H
          clear H
          go_wp2_with (first | ((with_reducible refine gate_callee (f := 16) rfl ?_); refine goesL_ (some 31) rfl rfl Try.func16 (by kernel_rfl) rfl #[.int .i64 (wrap64 (ji8)), .int .i64 a2, .int .i64 t118] rfl (by (try simp only [List.map_toArray, List.map_cons, List.map_nil]); first | done | (simp only [hji8]; rfl) | rfl | (simp only [List.length_drop, List.length_take]; rfl)) ?_; (with_reducible refine (prio_Preempts.calls (wrap64 (ji8)) a2 t118 true _ A12.out).mono ?_); rintro e w' ⟨rfl, ⟨nd, rfl⟩⟩; refine ⟨_, rfl, ?_⟩) | (go_at_call 16; (with_reducible refine (prio_Preempts.calls (wrap64 (ji7)) a2 t118 true _ A14.out).mono ?_); rintro e w' ⟨rfl, ⟨nd, rfl⟩⟩) | (go_at_call 17; (with_reducible refine (prio_Passes.calls (wrap64 (ji8)) a5 false _ A16.out).mono ?_); rintro e w' ⟨rfl, ⟨nd, rfl⟩⟩))
          go_meet
          case rel => exact ⟨_, (false), (by first | rfl | (simp; done) | (simp [*]; done)), H', ⟨by first | omega | exact Nat.le_refl _⟩, ⟨by repeat (first | (with_reducible first | exact HB.out | apply below_alloc | apply pw_below_drewN | apply below_drew1) | exact HB.out)⟩⟩
      · replace c15 := Bool.eq_false_iff.mpr c15
        subst c15
        have H1 : (crierlaw06_PrioHigher.j0 k a3 a4 (wrap64 (ji7)) t118 true) = some r := by rw [if_neg (show ¬ (false = true) by decide)] at H; exact H
        clear H
        have H := H1
        clear H1
        have H' := Aside0.mk H
        clear H
        go_wp2_with (first | ((with_reducible refine gate_callee (f := 16) rfl ?_); refine goesL_ (some 31) rfl rfl Try.func16 (by kernel_rfl) rfl #[.int .i64 (wrap64 (ji8)), .int .i64 a2, .int .i64 t118] rfl (by (try simp only [List.map_toArray, List.map_cons, List.map_nil]); first | done | (simp only [hji8]; rfl) | rfl | (simp only [List.length_drop, List.length_take]; rfl)) ?_; (with_reducible refine (prio_Preempts.calls (wrap64 (ji8)) a2 t118 true _ A12.out).mono ?_); rintro e w' ⟨rfl, ⟨nd, rfl⟩⟩; refine ⟨_, rfl, ?_⟩) | (go_at_call 16; (with_reducible refine (prio_Preempts.calls (wrap64 (ji7)) a2 t118 false _ A14.out).mono ?_); rintro e w' ⟨rfl, ⟨nd, rfl⟩⟩))
        go_meet
        case rel => exact ⟨_, (true), (by first | rfl | (simp; done) | (simp [*]; done)), H', ⟨by first | omega | exact Nat.le_refl _⟩, ⟨by repeat (first | (with_reducible first | exact HB.out | apply below_alloc | apply pw_below_drewN | apply below_drew1) | exact HB.out)⟩⟩
    · replace c13 := Bool.eq_false_iff.mpr c13
      subst c13
      have H1 : ((prio_Passes.f (wrap64 (ji8)) a5).bind fun t123 => (if t123 = true then ((prio_Passes.f (wrap64 (ji7)) a5).bind fun t124 => (crierlaw06_PrioHigher.j0 k a3 a4 (wrap64 (ji7)) t118 (!t124))) else (crierlaw06_PrioHigher.j0 k a3 a4 (wrap64 (ji7)) t118 false))) = some r := by rw [if_neg (show ¬ (false = true) by decide)] at H; exact H
      clear H
      have H := H1
      clear H1
      replace H := Option.bind_eq_some_iff.mp H
      obtain ⟨t123, A190, H⟩ := H
      replace H : (if t123 = true then ((prio_Passes.f (wrap64 (ji7)) a5).bind fun t124 => (crierlaw06_PrioHigher.j0 k a3 a4 (wrap64 (ji7)) t118 (!t124))) else (crierlaw06_PrioHigher.j0 k a3 a4 (wrap64 (ji7)) t118 false)) = some r := H
      have A19 := Aside0.mk A190
      clear A190
      by_cases c20 : t123 = true
      · subst c20
        have H1 : ((prio_Passes.f (wrap64 (ji7)) a5).bind fun t124 => (crierlaw06_PrioHigher.j0 k a3 a4 (wrap64 (ji7)) t118 (!t124))) = some r := by rw [if_pos rfl] at H; exact H
        clear H
        have H := H1
        clear H1
        replace H := Option.bind_eq_some_iff.mp H
        obtain ⟨t124, A210, H⟩ := H
        replace H : (crierlaw06_PrioHigher.j0 k a3 a4 (wrap64 (ji7)) t118 (!t124)) = some r := H
        have A21 := Aside0.mk A210
        clear A210
        have H' := Aside0.mk H
        clear H
        go_wp2_with (first | ((with_reducible refine gate_callee (f := 16) rfl ?_); refine goesL_ (some 31) rfl rfl Try.func16 (by kernel_rfl) rfl #[.int .i64 (wrap64 (ji8)), .int .i64 a2, .int .i64 t118] rfl (by (try simp only [List.map_toArray, List.map_cons, List.map_nil]); first | done | (simp only [hji8]; rfl) | rfl | (simp only [List.length_drop, List.length_take]; rfl)) ?_; (with_reducible refine (prio_Preempts.calls (wrap64 (ji8)) a2 t118 false _ A12.out).mono ?_); rintro e w' ⟨rfl, ⟨nd, rfl⟩⟩; refine ⟨_, rfl, ?_⟩) | (go_at_call 17; (with_reducible refine (prio_Passes.calls (wrap64 (ji8)) a5 true _ A19.out).mono ?_); rintro e w' ⟨rfl, ⟨nd, rfl⟩⟩) | (go_at_call 17; (with_reducible refine (prio_Passes.calls (wrap64 (ji7)) a5 t124 _ A21.out).mono ?_); rintro e w' ⟨rfl, ⟨nd, rfl⟩⟩))
        go_meet
        case rel => exact ⟨_, (!t124), (by first | rfl | (simp; done) | (simp [*]; done)), H', ⟨by first | omega | exact Nat.le_refl _⟩, ⟨by repeat (first | (with_reducible first | exact HB.out | apply below_alloc | apply pw_below_drewN | apply below_drew1) | exact HB.out)⟩⟩
      · replace c20 := Bool.eq_false_iff.mpr c20
        subst c20
        have H1 : (crierlaw06_PrioHigher.j0 k a3 a4 (wrap64 (ji7)) t118 false) = some r := by rw [if_neg (show ¬ (false = true) by decide)] at H; exact H
        clear H
        have H := H1
        clear H1
        have H' := Aside0.mk H
        clear H
        go_wp2_with (first | ((with_reducible refine gate_callee (f := 16) rfl ?_); refine goesL_ (some 31) rfl rfl Try.func16 (by kernel_rfl) rfl #[.int .i64 (wrap64 (ji8)), .int .i64 a2, .int .i64 t118] rfl (by (try simp only [List.map_toArray, List.map_cons, List.map_nil]); first | done | (simp only [hji8]; rfl) | rfl | (simp only [List.length_drop, List.length_take]; rfl)) ?_; (with_reducible refine (prio_Preempts.calls (wrap64 (ji8)) a2 t118 false _ A12.out).mono ?_); rintro e w' ⟨rfl, ⟨nd, rfl⟩⟩; refine ⟨_, rfl, ?_⟩) | (go_at_call 17; (with_reducible refine (prio_Passes.calls (wrap64 (ji8)) a5 false _ A19.out).mono ?_); rintro e w' ⟨rfl, ⟨nd, rfl⟩⟩))
        go_meet
        case rel => exact ⟨_, (false), (by first | rfl | (simp; done) | (simp [*]; done)), H', ⟨by first | omega | exact Nat.le_refl _⟩, ⟨by repeat (first | (with_reducible first | exact HB.out | apply below_alloc | apply pw_below_drewN | apply below_drew1) | exact HB.out)⟩⟩
  case rest =>
    clear HC10
    try clear c1
    try clear c2
    try clear p2
    try clear c6
    try clear p6
    try clear c13
    try clear c15
    try clear c16
    try clear c17
    try clear c20
    obtain ⟨kq, x49_9, rfl, HA, HJ9, HB⟩ := hcut
    cases kq with
    | zero => exact absurd HA.out (by simp [crierlaw06_PrioHigher.j0])
    | succ kj9 =>
      have H := HA.out
      clear HA
      simp only [crierlaw06_PrioHigher.j0] at H
      by_cases c22 : x49_9 = true
      · subst c22
        have H1 : (some false) = some r := by rw [if_pos rfl] at H; exact H
        clear H
        have H := H1
        clear H1
        obtain rfl := Option.some.inj H
        go_wp2
        go_ret
        exact ⟨by first | rfl | (simp [errW_none, errW_some] <;> rfl) | (simp only [← hji7, ← hji8]; first | rfl | (simp [errW_none, errW_some] <;> rfl)) | (simp [*, errW_none, errW_some] <;> rfl), by repeat (first | (with_reducible first | exact HB.out | apply below_alloc | apply pw_below_drewN | apply below_drew1) | exact HB.out)⟩
      · replace c22 := Bool.eq_false_iff.mpr c22
        subst c22
        have H1 : ((prio_Mask.f a3 (mn 7 (wrap64 ((Go.bits .and .i64 a4 7) + 1)))).bind fun t125 => ((crierlaw06_awake.f).bind fun t126 => (if t126 = true then (if (Go.bits .and .i64 a4 7) = 7 then (some ((Go.bits .and .i64 t125 t118) == t125)) else ((prio_Level.f (wrap64 (ji7)) t125).bind fun t127 => ((prio_Level.f (wrap64 (ji7)) t118).bind fun t128 => (if t127 ≤ t128 then (some ((Go.bits .and .i64 t125 t118) == t125)) else (some false))))) else (some false)))) = some r := by rw [if_neg (show ¬ (false = true) by decide)] at H; exact H
        clear H
        have H := H1
        clear H1
        obtain ⟨ji23, hji23⟩ : ∃ j_ : Int, (mn 7 (wrap64 ((Go.bits .and .i64 a4 7) + 1))) = j_ := ⟨_, rfl⟩
        replace H : ((prio_Mask.f a3 (ji23)).bind fun t125 => ((crierlaw06_awake.f).bind fun t126 => (if t126 = true then (if (Go.bits .and .i64 a4 7) = 7 then (some ((Go.bits .and .i64 t125 t118) == t125)) else ((prio_Level.f (wrap64 (ji7)) t125).bind fun t127 => ((prio_Level.f (wrap64 (ji7)) t118).bind fun t128 => (if t127 ≤ t128 then (some ((Go.bits .and .i64 t125 t118) == t125)) else (some false))))) else (some false)))) = some r := by first | (rw [hji23] at H; exact H) | (simp only [hji23] at H ⊢; exact H)
        have hji23_ : (if (wrap64 ((Go.bits .and .i64 a4 7) + 1)) < 7 then (wrap64 ((Go.bits .and .i64 a4 7) + 1)) else 7) = ji23 := hji23
        replace H := Option.bind_eq_some_iff.mp H
        obtain ⟨t125, A240, H⟩ := H
        replace H : ((crierlaw06_awake.f).bind fun t126 => (if t126 = true then (if (Go.bits .and .i64 a4 7) = 7 then (some ((Go.bits .and .i64 t125 t118) == t125)) else ((prio_Level.f (wrap64 (ji7)) t125).bind fun t127 => ((prio_Level.f (wrap64 (ji7)) t118).bind fun t128 => (if t127 ≤ t128 then (some ((Go.bits .and .i64 t125 t118) == t125)) else (some false))))) else (some false))) = some r := H
        have A24 := Aside0.mk A240
        clear A240
        replace H := Option.bind_eq_some_iff.mp H
        obtain ⟨t126, A250, H⟩ := H
        replace H : (if t126 = true then (if (Go.bits .and .i64 a4 7) = 7 then (some ((Go.bits .and .i64 t125 t118) == t125)) else ((prio_Level.f (wrap64 (ji7)) t125).bind fun t127 => ((prio_Level.f (wrap64 (ji7)) t118).bind fun t128 => (if t127 ≤ t128 then (some ((Go.bits .and .i64 t125 t118) == t125)) else (some false))))) else (some false)) = some r := H
        have A25 := Aside0.mk A250
        clear A250
        by_cases c26 : t126 = true
        · subst c26
          have H1 : (if (Go.bits .and .i64 a4 7) = 7 then (some ((Go.bits .and .i64 t125 t118) == t125)) else ((prio_Level.f (wrap64 (ji7)) t125).bind fun t127 => ((prio_Level.f (wrap64 (ji7)) t118).bind fun t128 => (if t127 ≤ t128 then (some ((Go.bits .and .i64 t125 t118) == t125)) else (some false))))) = some r := by rw [if_pos rfl] at H; exact H
          clear H
          have H := H1
          clear H1
          by_cases c27 : (Go.bits .and .i64 a4 7) = 7
          · rw [if_pos c27] at H
            have c27b0 : ((Go.bits .and .i64 a4 7) == 7) = true := beq_iff_eq.mpr c27
            have c27b1 : ((Go.bits .and .i64 a4 7) != 7) = false := bne_eq_false_iff_eq.mpr c27
            clear c27
            obtain rfl := Option.some.inj H
            go_wp2_with (first | ((with_reducible refine gate_callee (f := 13) rfl ?_); refine goesL_ (some 55) rfl rfl Try.func13 (by kernel_rfl) rfl #[.int .i64 a3, .int .i64 ji23] rfl (by (try simp only [List.map_toArray, List.map_cons, List.map_nil]); first | done | (simp only [hji23]; rfl) | rfl | (simp only [List.length_drop, List.length_take]; rfl)) ?_; (with_reducible refine (prio_Mask.calls a3 ji23 t125 _ A24.out).mono ?_); rintro e w28 ⟨rfl, hb⟩; refine ⟨_, rfl, ?_⟩; have n0_ := Aside0.mk (below_step (by repeat (first | (with_reducible first | exact HB.out | apply below_alloc | apply pw_below_drewN | apply below_drew1) | exact HB.out)) hb); clear HB; have HB := n0_; clear n0_; (try clear hb); (try clear hb2); (try clear hk); (try clear hi)) | ((with_reducible refine gate_callee (f := 11) rfl ?_); refine goesL_ (some 56) rfl rfl Try.func11 (by kernel_rfl) rfl #[] rfl (by (try simp only [List.map_toArray, List.map_cons, List.map_nil]); first | done | rfl | (simp only [List.length_drop, List.length_take]; rfl)) ?_; (with_reducible refine (crierlaw06_awake.calls  true _ A25.out).mono ?_); rintro e w29 ⟨rfl, hb⟩; refine ⟨_, rfl, ?_⟩; have n0_ := Aside0.mk (below_step (by repeat (first | (with_reducible first | exact HB.out | apply below_alloc | apply pw_below_drewN | apply below_drew1) | exact HB.out)) hb); clear HB; have HB := n0_; clear n0_; (try clear hb); (try clear hb2); (try clear hk); (try clear hi)))
            go_ret
            exact ⟨by first | rfl | (simp [errW_none, errW_some] <;> rfl) | (simp only [← hji7, ← hji8, ← hji23]; first | rfl | (simp [errW_none, errW_some] <;> rfl)) | (simp [*, errW_none, errW_some] <;> rfl), by repeat (first | (with_reducible first | exact HB.out | apply below_alloc | apply pw_below_drewN | apply below_drew1) | exact HB.out)⟩
          · rw [if_neg c27] at H
            have c27b0 : ((Go.bits .and .i64 a4 7) == 7) = false := beq_eq_false_iff_ne.mpr c27
            have c27b1 : ((Go.bits .and .i64 a4 7) != 7) = true := bne_iff_ne.mpr c27
            replace H := Option.bind_eq_some_iff.mp H
            obtain ⟨t127, A300, H⟩ := H
            replace H : ((prio_Level.f (wrap64 (ji7)) t118).bind fun t128 => (if t127 ≤ t128 then (some ((Go.bits .and .i64 t125 t118) == t125)) else (some false))) = some r := H
            have A30 := Aside0.mk A300
            clear A300
            replace H := Option.bind_eq_some_iff.mp H
            obtain ⟨t128, A310, H⟩ := H
            replace H : (if t127 ≤ t128 then (some ((Go.bits .and .i64 t125 t118) == t125)) else (some false)) = some r := H
            have A31 := Aside0.mk A310
            clear A310
            by_cases c32 : t127 ≤ t128
            · rw [if_pos c32] at H
              have c32b0 : decide (t127 ≤ t128) = true := decide_eq_true c32
              clear c32
              obtain rfl := Option.some.inj H
              go_wp2_with (first | ((with_reducible refine gate_callee (f := 13) rfl ?_); refine goesL_ (some 55) rfl rfl Try.func13 (by kernel_rfl) rfl #[.int .i64 a3, .int .i64 ji23] rfl (by (try simp only [List.map_toArray, List.map_cons, List.map_nil]); first | done | (simp only [hji23]; rfl) | rfl | (simp only [List.length_drop, List.length_take]; rfl)) ?_; (with_reducible refine (prio_Mask.calls a3 ji23 t125 _ A24.out).mono ?_); rintro e w33 ⟨rfl, hb⟩; refine ⟨_, rfl, ?_⟩; have n0_ := Aside0.mk (below_step (by repeat (first | (with_reducible first | exact HB.out | apply below_alloc | apply pw_below_drewN | apply below_drew1) | exact HB.out)) hb); clear HB; have HB := n0_; clear n0_; (try clear hb); (try clear hb2); (try clear hk); (try clear hi)) | ((with_reducible refine gate_callee (f := 11) rfl ?_); refine goesL_ (some 56) rfl rfl Try.func11 (by kernel_rfl) rfl #[] rfl (by (try simp only [List.map_toArray, List.map_cons, List.map_nil]); first | done | rfl | (simp only [List.length_drop, List.length_take]; rfl)) ?_; (with_reducible refine (crierlaw06_awake.calls  true _ A25.out).mono ?_); rintro e w34 ⟨rfl, hb⟩; refine ⟨_, rfl, ?_⟩; have n0_ := Aside0.mk (below_step (by repeat (first | (with_reducible first | exact HB.out | apply below_alloc | apply pw_below_drewN | apply below_drew1) | exact HB.out)) hb); clear HB; have HB := n0_; clear n0_; (try clear hb); (try clear hb2); (try clear hk); (try clear hi)) | (go_at_call 14; (with_reducible refine (prio_Level.calls (wrap64 (ji7)) t125 t127 _ A30.out).mono ?_); rintro e w' ⟨rfl, ⟨nd, rfl⟩⟩) | (go_at_call 14; (with_reducible refine (prio_Level.calls (wrap64 (ji7)) t118 t128 _ A31.out).mono ?_); rintro e w' ⟨rfl, ⟨nd, rfl⟩⟩))
              go_ret
              exact ⟨by first | rfl | (simp [errW_none, errW_some] <;> rfl) | (simp only [← hji7, ← hji8, ← hji23]; first | rfl | (simp [errW_none, errW_some] <;> rfl)) | (simp [*, errW_none, errW_some] <;> rfl), by repeat (first | (with_reducible first | exact HB.out | apply below_alloc | apply pw_below_drewN | apply below_drew1) | exact HB.out)⟩
            · rw [if_neg c32] at H
              have c32b0 : decide (t127 ≤ t128) = false := decide_eq_false c32
              clear c32
              obtain rfl := Option.some.inj H
              go_wp2_with (first | ((with_reducible refine gate_callee (f := 13) rfl ?_); refine goesL_ (some 55) rfl rfl Try.func13 (by kernel_rfl) rfl #[.int .i64 a3, .int .i64 ji23] rfl (by (try simp only [List.map_toArray, List.map_cons, List.map_nil]); first | done | (simp only [hji23]; rfl) | rfl | (simp only [List.length_drop, List.length_take]; rfl)) ?_; (with_reducible refine (prio_Mask.calls a3 ji23 t125 _ A24.out).mono ?_); rintro e w35 ⟨rfl, hb⟩; refine ⟨_, rfl, ?_⟩; have n0_ := Aside0.mk (below_step (by repeat (first | (with_reducible first | exact HB.out | apply below_alloc | apply pw_below_drewN | apply below_drew1) | exact HB.out)) hb); clear HB; have HB := n0_; clear n0_; (try clear hb); (try clear hb2); (try clear hk); (try clear hi)) | ((with_reducible refine gate_callee (f := 11) rfl ?_); refine goesL_ (some 56) rfl rfl Try.func11 (by kernel_rfl) rfl #[] rfl (by (try simp only [List.map_toArray, List.map_cons, List.map_nil]); first | done | rfl | (simp only [List.length_drop, List.length_take]; rfl)) ?_; (with_reducible refine (crierlaw06_awake.calls  true _ A25.out).mono ?_); rintro e w36 ⟨rfl, hb⟩; refine ⟨_, rfl, ?_⟩; have n0_ := Aside0.mk (below_step (by repeat (first | (with_reducible first | exact HB.out | apply below_alloc | apply pw_below_drewN | apply below_drew1) | exact HB.out)) hb); clear HB; have HB := n0_; clear n0_; (try clear hb); (try clear hb2); (try clear hk); (try clear hi)) | (go_at_call 14; (with_reducible refine (prio_Level.calls (wrap64 (ji7)) t125 t127 _ A30.out).mono ?_); rintro e w' ⟨rfl, ⟨nd, rfl⟩⟩) | (go_at_call 14; (with_reducible refine (prio_Level.calls (wrap64 (ji7)) t118 t128 _ A31.out).mono ?_); rintro e w' ⟨rfl, ⟨nd, rfl⟩⟩))
              go_ret
              exact ⟨by first | rfl | (simp [errW_none, errW_some] <;> rfl) | (simp only [← hji7, ← hji8, ← hji23]; first | rfl | (simp [errW_none, errW_some] <;> rfl)) | (simp [*, errW_none, errW_some] <;> rfl), by repeat (first | (with_reducible first | exact HB.out | apply below_alloc | apply pw_below_drewN | apply below_drew1) | exact HB.out)⟩
        · replace c26 := Bool.eq_false_iff.mpr c26
          subst c26
          have H1 : (some false) = some r := by rw [if_neg (show ¬ (false = true) by decide)] at H; exact H
          clear H
          have H := H1
          clear H1
          obtain rfl := Option.some.inj H
          go_wp2_with (first | ((with_reducible refine gate_callee (f := 13) rfl ?_); refine goesL_ (some 55) rfl rfl Try.func13 (by kernel_rfl) rfl #[.int .i64 a3, .int .i64 ji23] rfl (by (try simp only [List.map_toArray, List.map_cons, List.map_nil]); first | done | (simp only [hji23]; rfl) | rfl | (simp only [List.length_drop, List.length_take]; rfl)) ?_; (with_reducible refine (prio_Mask.calls a3 ji23 t125 _ A24.out).mono ?_); rintro e w37 ⟨rfl, hb⟩; refine ⟨_, rfl, ?_⟩; have n0_ := Aside0.mk (below_step (by repeat (first | (with_reducible first | exact HB.out | apply below_alloc | apply pw_below_drewN | apply below_drew1) | exact HB.out)) hb); clear HB; have HB := n0_; clear n0_; (try clear hb); (try clear hb2); (try clear hk); (try clear hi)) | ((with_reducible refine gate_callee (f := 11) rfl ?_); refine goesL_ (some 56) rfl rfl Try.func11 (by kernel_rfl) rfl #[] rfl (by (try simp only [List.map_toArray, List.map_cons, List.map_nil]); first | done | rfl | (simp only [List.length_drop, List.length_take]; rfl)) ?_; (with_reducible refine (crierlaw06_awake.calls  false _ A25.out).mono ?_); rintro e w38 ⟨rfl, hb⟩; refine ⟨_, rfl, ?_⟩; have n0_ := Aside0.mk (below_step (by repeat (first | (with_reducible first | exact HB.out | apply below_alloc | apply pw_below_drewN | apply below_drew1) | exact HB.out)) hb); clear HB; have HB := n0_; clear n0_; (try clear hb); (try clear hb2); (try clear hk); (try clear hi)))
          go_ret
          exact ⟨by first | rfl | (simp [errW_none, errW_some] <;> rfl) | (simp only [← hji7, ← hji8, ← hji23]; first | rfl | (simp [errW_none, errW_some] <;> rfl)) | (simp [*, errW_none, errW_some] <;> rfl), by repeat (first | (with_reducible first | exact HB.out | apply below_alloc | apply pw_below_drewN | apply below_drew1) | exact HB.out)⟩

/-- THE ONE PURE STATEMENT of crierlaw06_PrioHigher: yours. -/
def crierlaw06_PrioHigher.Pure : Prop := ∀ (a0 : Int) (a1 : Int) (a2 : Int) (a3 : Int) (a4 : Int) (a5 : Int), (Lit.int .u8 a0).wf = true → (Lit.int .u8 a1).wf = true → (Lit.int .i64 a2).wf = true → (Lit.int .i64 a3).wf = true → (Lit.int .i64 a4).wf = true → (Lit.int .i64 a5).wf = true → ∃ k, crierlaw06_PrioHigher.f k a0 a1 a2 a3 a4 a5 = some true
theorem crierlaw06_PrioHigher.walk (P : crierlaw06_PrioHigher.Pure) (a0 : Int) (a1 : Int) (a2 : Int) (a3 : Int) (a4 : Int) (a5 : Int) (w : World) (w0 : (Lit.int .u8 a0).wf = true) (w1 : (Lit.int .u8 a1).wf = true) (w2 : (Lit.int .i64 a2).wf = true) (w3 : (Lit.int .i64 a3).wf = true) (w4 : (Lit.int .i64 a4).wf = true) (w5 : (Lit.int .i64 a5).wf = true) :
    Calls Try.prog 6 #[.int .u8 a0, .int .u8 a1, .int .i64 a2, .int .i64 a3, .int .i64 a4, .int .i64 a5] w fun e w' => e = .returned (.bool true) ∧ Below w.heap.size w w' := by
  obtain ⟨k, h⟩ := P a0 a1 a2 a3 a4 a5 w0 w1 w2 w3 w4 w5
  refine (crierlaw06_PrioHigher.calls k a0 a1 a2 a3 a4 a5 true w h).mono ?_
  rintro e w' ⟨rfl, hd⟩
  exact ⟨rfl, hd⟩

/-! ### crierref06_bit: function 27 -/
def crierref06_bit.f (a0 : Int) (a1 : Int) : Option (Bool) := if 0 ≤ a1 then (some ((Go.bits .and .i64 (shr .i64 a0 a1) 1) == 1)) else (none)
set_option maxHeartbeats 8000000 in
set_option maxRecDepth 100000 in
theorem crierref06_bit.calls (a0 : Int) (a1 : Int) (r : Bool) (w : World) (h : crierref06_bit.f a0 a1 = some r) :
    Calls Try.prog 27 #[.int .i64 a0, .int .i64 a1] w fun e w' => e = .returned (.bool r) ∧ Drawn0 w w' := by
  have H : (if 0 ≤ a1 then (some ((Go.bits .and .i64 (shr .i64 a0 a1) 1) == 1)) else (none)) = some r := h
  clear h
  by_cases c3 : 0 ≤ a1
  · rw [if_pos c3] at H
    have c3b0 := eq_true c3
    have c3b1 : decide (0 ≤ a1) = true := decide_eq_true c3
    clear c3
    obtain ⟨ji4, hji4⟩ : ∃ j_ : Int, (shr .i64 a0 a1) = j_ := ⟨_, rfl⟩
    replace H : (some ((Go.bits .and .i64 (ji4) 1) == 1)) = some r := by first | (rw [hji4] at H; exact H) | (simp only [hji4] at H ⊢; exact H)
    have hji4_ : (a0 / 2 ^ min a1.toNat 64) = ji4 := hji4
    have hji4z : a1 ≤ 64 → (a0 / 2 ^ a1.toNat) = ji4 := shr_small hji4
    obtain rfl := Option.some.inj H
    go_enter Try.func27, Try.ntmps27
    go_wp2
    go_ret
    exact ⟨by first | rfl | (simp; done) | (simp only [← hji4] <;> (first | rfl | simp)) | (simp [*]; done), by repeat (first | exact Drawn0.refl _ | apply Drawn0.step)⟩
  · rw [if_neg c3] at H
    exact absurd H (by simp)

end Go.Proofs.Ytoldcfgedmjmfaa.IAll
