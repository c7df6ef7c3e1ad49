-- Written by the program wip/gen/inj.py of this repository, out of the translation, for this claim. Not trusted: Lean checks it.
import Derived.Test.YtoldcfgedmjmfaaIAllx0
import Derived.Test.YtoldcfgedmjmfaaIAllx1
import Derived.Test.YtoldcfgedmjmfaaIAllx2
import Derived.Test.YtoldcfgedmjmfaaIAllx4
import Derived.Test.YtoldcfgedmjmfaaIAllx5
import Derived.Test.YtoldcfgedmjmfaaIAllx6
namespace Go.Proofs.Ytoldcfgedmjmfaa.IAll
open Go.RowKit Go.Proofs.YtoldcfgedmjmfaaW.PrintWords Go.Proofs.YtoldcfgedmjmfaaW.PrintLast Go.Proofs.YtoldcfgedmjmfaaW.PrintMore
attribute [local go_sem] max2_int min2_int max_two min_two max_three min_three max_four min_four   -- for this text's walks alone
set_option linter.unusedVariables false
set_option linter.unusedSimpArgs false

/-! ### crierlaw06_PrioReckons: function 7 -/
def crierlaw06_PrioReckons.f (k : Nat) (a0 : Int) (a1 : Int) (a2 : Int) (a3 : Int) (a4 : Int) : Option (Bool) := (crierlaw06_awake.f).bind fun t133 => (if t133 = true then ((prio_Real.f a0).bind fun t134 => ((crierref06_Real.f k a0).bind fun t135 => (if t134 = t135 then ((prio_Mask.f a2 a3).bind fun t136 => ((crierref06_Mask.f k a2 a3).bind fun t137 => (if t136 = t137 then ((prio_Level.f a0 a4).bind fun t138 => (if t138 = (Go.bits .and .i64 a0 a4) then ((prio_Sub.f a0 a4).bind fun t139 => ((crierref06_Sub.f k a0 a4).bind fun t140 => (if t139 = t140 then ((prio_Passes.f a0 a1).bind fun t141 => (if (t141 == (decide (a0 < a1))) = true then ((prio_Preempts.f a0 a1 a4).bind fun t142 => (some (t142 == (decide ((Go.bits .and .i64 a0 a4) < a1))))) else (some false))) else (some false)))) else (some false))) else (some false)))) else (some false)))) else (some false))
theorem crierlaw06_PrioReckons.mono : ∀ a0 a1 a2 a3 a4 k, LeO (crierlaw06_PrioReckons.f k a0 a1 a2 a3 a4) (crierlaw06_PrioReckons.f (k + 1) a0 a1 a2 a3 a4) := by
  intro a0 a1 a2 a3 a4 k
  unfold crierlaw06_PrioReckons.f
  repeat' first
      | (with_reducible exact crierref06_Mask.mono _ _ _)
      | (with_reducible exact crierref06_Real.mono _ _)
      | (with_reducible exact crierref06_Sub.mono _ _ _)
      | (with_reducible exact LeO.refl _)
      | (with_reducible exact LeO.none _)
      | (with_reducible refine LeO.ite ?_ ?_)
      | (with_reducible refine LeO.bind ?_ (fun _ => ?_))
      | exact crierref06_Mask.mono _ _ _
      | exact crierref06_Real.mono _ _
      | exact crierref06_Sub.mono _ _ _
      | exact LeO.none _
      | refine LeO.ite ?_ ?_
      | refine LeO.bind ?_ (fun _ => ?_)
set_option maxHeartbeats 8000000 in
set_option maxRecDepth 100000 in
theorem crierlaw06_PrioReckons.calls (k : Nat) (a0 : Int) (a1 : Int) (a2 : Int) (a3 : Int) (a4 : Int) (r : Bool) (w : World) (h : crierlaw06_PrioReckons.f k a0 a1 a2 a3 a4 = some r) :
    Calls Try.prog 7 #[.int .i64 a0, .int .i64 a1, .int .i64 a2, .int .i64 a3, .int .i64 a4] w fun e w' => e = .returned (.bool r) ∧ Below w.heap.size w w' := by
  have HB := Aside0.mk (Below.refl w.heap.size w)
  have H : ((crierlaw06_awake.f).bind fun t133 => (if t133 = true then ((prio_Real.f a0).bind fun t134 => ((crierref06_Real.f k a0).bind fun t135 => (if t134 = t135 then ((prio_Mask.f a2 a3).bind fun t136 => ((crierref06_Mask.f k a2 a3).bind fun t137 => (if t136 = t137 then ((prio_Level.f a0 a4).bind fun t138 => (if t138 = (Go.bits .and .i64 a0 a4) then ((prio_Sub.f a0 a4).bind fun t139 => ((crierref06_Sub.f k a0 a4).bind fun t140 => (if t139 = t140 then ((prio_Passes.f a0 a1).bind fun t141 => (if (t141 == (decide (a0 < a1))) = true then ((prio_Preempts.f a0 a1 a4).bind fun t142 => (some (t142 == (decide ((Go.bits .and .i64 a0 a4) < a1))))) else (some false))) else (some false)))) else (some false))) else (some false)))) else (some false)))) else (some false))) = some r := h
  clear h
  replace H := Option.bind_eq_some_iff.mp H
  obtain ⟨t133, A60, H⟩ := H
  replace H : (if t133 = true then ((prio_Real.f a0).bind fun t134 => ((crierref06_Real.f k a0).bind fun t135 => (if t134 = t135 then ((prio_Mask.f a2 a3).bind fun t136 => ((crierref06_Mask.f k a2 a3).bind fun t137 => (if t136 = t137 then ((prio_Level.f a0 a4).bind fun t138 => (if t138 = (Go.bits .and .i64 a0 a4) then ((prio_Sub.f a0 a4).bind fun t139 => ((crierref06_Sub.f k a0 a4).bind fun t140 => (if t139 = t140 then ((prio_Passes.f a0 a1).bind fun t141 => (if (t141 == (decide (a0 < a1))) = true then ((prio_Preempts.f a0 a1 a4).bind fun t142 => (some (t142 == (decide ((Go.bits .and .i64 a0 a4) < a1))))) else (some false))) else (some false)))) else (some false))) else (some false)))) else (some false)))) else (some false)) = some r := H
  have A6 := Aside0.mk A60
  clear A60
  by_cases c7 : t133 = true
  · subst c7
    have H1 : ((prio_Real.f a0).bind fun t134 => ((crierref06_Real.f k a0).bind fun t135 => (if t134 = t135 then ((prio_Mask.f a2 a3).bind fun t136 => ((crierref06_Mask.f k a2 a3).bind fun t137 => (if t136 = t137 then ((prio_Level.f a0 a4).bind fun t138 => (if t138 = (Go.bits .and .i64 a0 a4) then ((prio_Sub.f a0 a4).bind fun t139 => ((crierref06_Sub.f k a0 a4).bind fun t140 => (if t139 = t140 then ((prio_Passes.f a0 a1).bind fun t141 => (if (t141 == (decide (a0 < a1))) = true then ((prio_Preempts.f a0 a1 a4).bind fun t142 => (some (t142 == (decide ((Go.bits .and .i64 a0 a4) < a1))))) else (some false))) else (some false)))) else (some false))) else (some false)))) else (some false)))) = some r := by rw [if_pos rfl] at H; exact H
    clear H
    have H := H1
    clear H1
    replace H := Option.bind_eq_some_iff.mp H
    obtain ⟨t134, A80, H⟩ := H
    replace H : ((crierref06_Real.f k a0).bind fun t135 => (if t134 = t135 then ((prio_Mask.f a2 a3).bind fun t136 => ((crierref06_Mask.f k a2 a3).bind fun t137 => (if t136 = t137 then ((prio_Level.f a0 a4).bind fun t138 => (if t138 = (Go.bits .and .i64 a0 a4) then ((prio_Sub.f a0 a4).bind fun t139 => ((crierref06_Sub.f k a0 a4).bind fun t140 => (if t139 = t140 then ((prio_Passes.f a0 a1).bind fun t141 => (if (t141 == (decide (a0 < a1))) = true then ((prio_Preempts.f a0 a1 a4).bind fun t142 => (some (t142 == (decide ((Go.bits .and .i64 a0 a4) < a1))))) else (some false))) else (some false)))) else (some false))) else (some false)))) else (some false))) = some r := H
    have A8 := Aside0.mk A80
    clear A80
    replace H := Option.bind_eq_some_iff.mp H
    obtain ⟨t135, A90, H⟩ := H
    replace H : (if t134 = t135 then ((prio_Mask.f a2 a3).bind fun t136 => ((crierref06_Mask.f k a2 a3).bind fun t137 => (if t136 = t137 then ((prio_Level.f a0 a4).bind fun t138 => (if t138 = (Go.bits .and .i64 a0 a4) then ((prio_Sub.f a0 a4).bind fun t139 => ((crierref06_Sub.f k a0 a4).bind fun t140 => (if t139 = t140 then ((prio_Passes.f a0 a1).bind fun t141 => (if (t141 == (decide (a0 < a1))) = true then ((prio_Preempts.f a0 a1 a4).bind fun t142 => (some (t142 == (decide ((Go.bits .and .i64 a0 a4) < a1))))) else (some false))) else (some false)))) else (some false))) else (some false)))) else (some false)) = some r := H
    have A9 := Aside0.mk A90
    clear A90
    by_cases c10 : t134 = t135
    · rw [if_pos c10] at H
      have c10b0 : (t134 == t135) = true := beq_iff_eq.mpr c10
      have c10b1 : (t134 != t135) = false := bne_eq_false_iff_eq.mpr c10
      clear c10
      replace H := Option.bind_eq_some_iff.mp H
      obtain ⟨t136, A110, H⟩ := H
      replace H : ((crierref06_Mask.f k a2 a3).bind fun t137 => (if t136 = t137 then ((prio_Level.f a0 a4).bind fun t138 => (if t138 = (Go.bits .and .i64 a0 a4) then ((prio_Sub.f a0 a4).bind fun t139 => ((crierref06_Sub.f k a0 a4).bind fun t140 => (if t139 = t140 then ((prio_Passes.f a0 a1).bind fun t141 => (if (t141 == (decide (a0 < a1))) = true then ((prio_Preempts.f a0 a1 a4).bind fun t142 => (some (t142 == (decide ((Go.bits .and .i64 a0 a4) < a1))))) else (some false))) else (some false)))) else (some false))) else (some false))) = some r := H
      have A11 := Aside0.mk A110
      clear A110
      replace H := Option.bind_eq_some_iff.mp H
      obtain ⟨t137, A120, H⟩ := H
      replace H : (if t136 = t137 then ((prio_Level.f a0 a4).bind fun t138 => (if t138 = (Go.bits .and .i64 a0 a4) then ((prio_Sub.f a0 a4).bind fun t139 => ((crierref06_Sub.f k a0 a4).bind fun t140 => (if t139 = t140 then ((prio_Passes.f a0 a1).bind fun t141 => (if (t141 == (decide (a0 < a1))) = true then ((prio_Preempts.f a0 a1 a4).bind fun t142 => (some (t142 == (decide ((Go.bits .and .i64 a0 a4) < a1))))) else (some false))) else (some false)))) else (some false))) else (some false)) = some r := H
      have A12 := Aside0.mk A120
      clear A120
      by_cases c13 : t136 = t137
      · rw [if_pos c13] at H
        have c13b0 : (t136 == t137) = true := beq_iff_eq.mpr c13
        have c13b1 : (t136 != t137) = false := bne_eq_false_iff_eq.mpr c13
        clear c13
        replace H := Option.bind_eq_some_iff.mp H
        obtain ⟨t138, A140, H⟩ := H
        replace H : (if t138 = (Go.bits .and .i64 a0 a4) then ((prio_Sub.f a0 a4).bind fun t139 => ((crierref06_Sub.f k a0 a4).bind fun t140 => (if t139 = t140 then ((prio_Passes.f a0 a1).bind fun t141 => (if (t141 == (decide (a0 < a1))) = true then ((prio_Preempts.f a0 a1 a4).bind fun t142 => (some (t142 == (decide ((Go.bits .and .i64 a0 a4) < a1))))) else (some false))) else (some false)))) else (some false)) = some r := H
        have A14 := Aside0.mk A140
        clear A140
        by_cases c15 : t138 = (Go.bits .and .i64 a0 a4)
        · rw [if_pos c15] at H
          have c15b0 : (t138 == (Go.bits .and .i64 a0 a4)) = true := beq_iff_eq.mpr c15
          have c15b1 : (t138 != (Go.bits .and .i64 a0 a4)) = false := bne_eq_false_iff_eq.mpr c15
          clear c15
          replace H := Option.bind_eq_some_iff.mp H
          obtain ⟨t139, A160, H⟩ := H
          replace H : ((crierref06_Sub.f k a0 a4).bind fun t140 => (if t139 = t140 then ((prio_Passes.f a0 a1).bind fun t141 => (if (t141 == (decide (a0 < a1))) = true then ((prio_Preempts.f a0 a1 a4).bind fun t142 => (some (t142 == (decide ((Go.bits .and .i64 a0 a4) < a1))))) else (some false))) else (some false))) = some r := H
          have A16 := Aside0.mk A160
          clear A160
          replace H := Option.bind_eq_some_iff.mp H
          obtain ⟨t140, A170, H⟩ := H
          replace H : (if t139 = t140 then ((prio_Passes.f a0 a1).bind fun t141 => (if (t141 == (decide (a0 < a1))) = true then ((prio_Preempts.f a0 a1 a4).bind fun t142 => (some (t142 == (decide ((Go.bits .and .i64 a0 a4) < a1))))) else (some false))) else (some false)) = some r := H
          have A17 := Aside0.mk A170
          clear A170
          by_cases c18 : t139 = t140
          · rw [if_pos c18] at H
            have c18b0 : (t139 == t140) = true := beq_iff_eq.mpr c18
            have c18b1 : (t139 != t140) = false := bne_eq_false_iff_eq.mpr c18
            clear c18
            replace H := Option.bind_eq_some_iff.mp H
            obtain ⟨t141, A190, H⟩ := H
            replace H : (if (t141 == (decide (a0 < a1))) = true then ((prio_Preempts.f a0 a1 a4).bind fun t142 => (some (t142 == (decide ((Go.bits .and .i64 a0 a4) < a1))))) else (some false)) = some r := H
            have A19 := Aside0.mk A190
            clear A190
            by_cases c20 : (t141 == (decide (a0 < a1))) = true
            · rw [if_pos c20] at H
              have c20b0 : (t141 == (decide (a0 < a1))) = true := c20
              (try (have c20b1 : decide (t141 = (decide (a0 < a1))) = true := by simpa using c20))
              (try (have c20b2 : (t141 == (decide (a0 < a1))) = true := by simpa using c20))
              clear c20
              replace H := Option.bind_eq_some_iff.mp H
              obtain ⟨t142, A210, H⟩ := H
              replace H : (some (t142 == (decide ((Go.bits .and .i64 a0 a4) < a1)))) = some r := H
              have A21 := Aside0.mk A210
              clear A210
              obtain rfl := Option.some.inj H
              go_enter Try.func7, Try.ntmps7
              go_wp2_with (first | ((with_reducible refine gate_callee (f := 11) rfl ?_); refine goesL_ (some 11) rfl rfl Try.func11 (by kernel_rfl) rfl #[] rfl (by (try simp only [List.map_toArray, List.map_cons, List.map_nil]); first | done | rfl | (simp only [List.length_drop, List.length_take]; rfl)) ?_; (with_reducible refine (crierlaw06_awake.calls  true _ A6.out).mono ?_); rintro e w22 ⟨rfl, hb⟩; refine ⟨_, rfl, ?_⟩; have n0_ := Aside0.mk (below_step (by repeat (first | (with_reducible first | exact HB.out | apply below_alloc | apply pw_below_drewN | apply below_drew1) | exact HB.out)) hb); clear HB; have HB := n0_; clear n0_; (try clear hb); (try clear hb2); (try clear hk); (try clear hi)) | (go_at_call 12; (with_reducible refine (prio_Real.calls a0 t134 _ A8.out).mono ?_); rintro e w' ⟨rfl, ⟨nd, rfl⟩⟩) | (go_at_call 18; (with_reducible refine (crierref06_Real.calls k a0 t135 _ A9.out).mono ?_); rintro e w' ⟨rfl, ⟨nd, rfl⟩⟩) | (go_at_call 13; (with_reducible refine (prio_Mask.calls a2 a3 t136 _ A11.out).mono ?_); rintro e w23 ⟨rfl, hb⟩; have n0_ := Aside0.mk (below_step (by repeat (first | (with_reducible first | exact HB.out | apply below_alloc | apply pw_below_drewN | apply below_drew1) | exact HB.out)) hb); clear HB; have HB := n0_; clear n0_; (try clear hb); (try clear hb2); (try clear hk); (try clear hi)) | (go_at_call 19; (with_reducible refine (crierref06_Mask.calls k a2 a3 t137 _ A12.out).mono ?_); rintro e w' ⟨rfl, ⟨nd, rfl⟩⟩) | (go_at_call 14; (with_reducible refine (prio_Level.calls a0 a4 t138 _ A14.out).mono ?_); rintro e w' ⟨rfl, ⟨nd, rfl⟩⟩) | (go_at_call 15; (with_reducible refine (prio_Sub.calls a0 a4 t139 _ A16.out).mono ?_); rintro e w' ⟨rfl, ⟨nd, rfl⟩⟩) | (go_at_call 20; (with_reducible refine (crierref06_Sub.calls k a0 a4 t140 _ A17.out).mono ?_); rintro e w' ⟨rfl, ⟨nd, rfl⟩⟩) | (go_at_call 17; (with_reducible refine (prio_Passes.calls a0 a1 t141 _ A19.out).mono ?_); rintro e w' ⟨rfl, ⟨nd, rfl⟩⟩) | (go_at_call 16; (with_reducible refine (prio_Preempts.calls a0 a1 a4 t142 _ A21.out).mono ?_); rintro e w' ⟨rfl, ⟨nd, rfl⟩⟩))
              go_ret
              exact ⟨by first | rfl | (simp [errW_none, errW_some] <;> rfl) | (simp [*, errW_none, errW_some] <;> rfl), by repeat (first | (with_reducible first | exact HB.out | apply below_alloc | apply pw_below_drewN | apply below_drew1) | exact HB.out)⟩
            · rw [if_neg c20] at H
              have c20b0 : (t141 == (decide (a0 < a1))) = false := by simpa using c20
              (try (have c20b1 : decide (t141 = (decide (a0 < a1))) = false := by simpa using c20))
              (try (have c20b2 : (t141 == (decide (a0 < a1))) = false := by simpa using c20))
              (try (have c20b3 : ¬ (t141 = (decide (a0 < a1))) := by simpa using c20))
              clear c20
              obtain rfl := Option.some.inj H
              go_enter Try.func7, Try.ntmps7
              go_wp2_with (first | ((with_reducible refine gate_callee (f := 11) rfl ?_); refine goesL_ (some 11) rfl rfl Try.func11 (by kernel_rfl) rfl #[] rfl (by (try simp only [List.map_toArray, List.map_cons, List.map_nil]); first | done | rfl | (simp only [List.length_drop, List.length_take]; rfl)) ?_; (with_reducible refine (crierlaw06_awake.calls  true _ A6.out).mono ?_); rintro e w24 ⟨rfl, hb⟩; refine ⟨_, rfl, ?_⟩; have n0_ := Aside0.mk (below_step (by repeat (first | (with_reducible first | exact HB.out | apply below_alloc | apply pw_below_drewN | apply below_drew1) | exact HB.out)) hb); clear HB; have HB := n0_; clear n0_; (try clear hb); (try clear hb2); (try clear hk); (try clear hi)) | (go_at_call 12; (with_reducible refine (prio_Real.calls a0 t134 _ A8.out).mono ?_); rintro e w' ⟨rfl, ⟨nd, rfl⟩⟩) | (go_at_call 18; (with_reducible refine (crierref06_Real.calls k a0 t135 _ A9.out).mono ?_); rintro e w' ⟨rfl, ⟨nd, rfl⟩⟩) | (go_at_call 13; (with_reducible refine (prio_Mask.calls a2 a3 t136 _ A11.out).mono ?_); rintro e w25 ⟨rfl, hb⟩; have n0_ := Aside0.mk (below_step (by repeat (first | (with_reducible first | exact HB.out | apply below_alloc | apply pw_below_drewN | apply below_drew1) | exact HB.out)) hb); clear HB; have HB := n0_; clear n0_; (try clear hb); (try clear hb2); (try clear hk); (try clear hi)) | (go_at_call 19; (with_reducible refine (crierref06_Mask.calls k a2 a3 t137 _ A12.out).mono ?_); rintro e w' ⟨rfl, ⟨nd, rfl⟩⟩) | (go_at_call 14; (with_reducible refine (prio_Level.calls a0 a4 t138 _ A14.out).mono ?_); rintro e w' ⟨rfl, ⟨nd, rfl⟩⟩) | (go_at_call 15; (with_reducible refine (prio_Sub.calls a0 a4 t139 _ A16.out).mono ?_); rintro e w' ⟨rfl, ⟨nd, rfl⟩⟩) | (go_at_call 20; (with_reducible refine (crierref06_Sub.calls k a0 a4 t140 _ A17.out).mono ?_); rintro e w' ⟨rfl, ⟨nd, rfl⟩⟩) | (go_at_call 17; (with_reducible refine (prio_Passes.calls a0 a1 t141 _ A19.out).mono ?_); rintro e w' ⟨rfl, ⟨nd, rfl⟩⟩))
              go_ret
              exact ⟨by first | rfl | (simp [errW_none, errW_some] <;> rfl) | (simp [*, errW_none, errW_some] <;> rfl), by repeat (first | (with_reducible first | exact HB.out | apply below_alloc | apply pw_below_drewN | apply below_drew1) | exact HB.out)⟩
          · rw [if_neg c18] at H
            have c18b0 : (t139 == t140) = false := beq_eq_false_iff_ne.mpr c18
            have c18b1 : (t139 != t140) = true := bne_iff_ne.mpr c18
            obtain rfl := Option.some.inj H
            go_enter Try.func7, Try.ntmps7
            go_wp2_with (first | ((with_reducible refine gate_callee (f := 11) rfl ?_); refine goesL_ (some 11) rfl rfl Try.func11 (by kernel_rfl) rfl #[] rfl (by (try simp only [List.map_toArray, List.map_cons, List.map_nil]); first | done | rfl | (simp only [List.length_drop, List.length_take]; rfl)) ?_; (with_reducible refine (crierlaw06_awake.calls  true _ A6.out).mono ?_); rintro e w26 ⟨rfl, hb⟩; refine ⟨_, rfl, ?_⟩; have n0_ := Aside0.mk (below_step (by repeat (first | (with_reducible first | exact HB.out | apply below_alloc | apply pw_below_drewN | apply below_drew1) | exact HB.out)) hb); clear HB; have HB := n0_; clear n0_; (try clear hb); (try clear hb2); (try clear hk); (try clear hi)) | (go_at_call 12; (with_reducible refine (prio_Real.calls a0 t134 _ A8.out).mono ?_); rintro e w' ⟨rfl, ⟨nd, rfl⟩⟩) | (go_at_call 18; (with_reducible refine (crierref06_Real.calls k a0 t135 _ A9.out).mono ?_); rintro e w' ⟨rfl, ⟨nd, rfl⟩⟩) | (go_at_call 13; (with_reducible refine (prio_Mask.calls a2 a3 t136 _ A11.out).mono ?_); rintro e w27 ⟨rfl, hb⟩; have n0_ := Aside0.mk (below_step (by repeat (first | (with_reducible first | exact HB.out | apply below_alloc | apply pw_below_drewN | apply below_drew1) | exact HB.out)) hb); clear HB; have HB := n0_; clear n0_; (try clear hb); (try clear hb2); (try clear hk); (try clear hi)) | (go_at_call 19; (with_reducible refine (crierref06_Mask.calls k a2 a3 t137 _ A12.out).mono ?_); rintro e w' ⟨rfl, ⟨nd, rfl⟩⟩) | (go_at_call 14; (with_reducible refine (prio_Level.calls a0 a4 t138 _ A14.out).mono ?_); rintro e w' ⟨rfl, ⟨nd, rfl⟩⟩) | (go_at_call 15; (with_reducible refine (prio_Sub.calls a0 a4 t139 _ A16.out).mono ?_); rintro e w' ⟨rfl, ⟨nd, rfl⟩⟩) | (go_at_call 20; (with_reducible refine (crierref06_Sub.calls k a0 a4 t140 _ A17.out).mono ?_); rintro e w' ⟨rfl, ⟨nd, rfl⟩⟩))
            go_ret
            exact ⟨by first | rfl | (simp [errW_none, errW_some] <;> rfl) | (simp [*, errW_none, errW_some] <;> rfl), by repeat (first | (with_reducible first | exact HB.out | apply below_alloc | apply pw_below_drewN | apply below_drew1) | exact HB.out)⟩
        · rw [if_neg c15] at H
          have c15b0 : (t138 == (Go.bits .and .i64 a0 a4)) = false := beq_eq_false_iff_ne.mpr c15
          have c15b1 : (t138 != (Go.bits .and .i64 a0 a4)) = true := bne_iff_ne.mpr c15
          obtain rfl := Option.some.inj H
          go_enter Try.func7, Try.ntmps7
          go_wp2_with (first | ((with_reducible refine gate_callee (f := 11) rfl ?_); refine goesL_ (some 11) rfl rfl Try.func11 (by kernel_rfl) rfl #[] rfl (by (try simp only [List.map_toArray, List.map_cons, List.map_nil]); first | done | rfl | (simp only [List.length_drop, List.length_take]; rfl)) ?_; (with_reducible refine (crierlaw06_awake.calls  true _ A6.out).mono ?_); rintro e w28 ⟨rfl, hb⟩; refine ⟨_, rfl, ?_⟩; have n0_ := Aside0.mk (below_step (by repeat (first | (with_reducible first | exact HB.out | apply below_alloc | apply pw_below_drewN | apply below_drew1) | exact HB.out)) hb); clear HB; have HB := n0_; clear n0_; (try clear hb); (try clear hb2); (try clear hk); (try clear hi)) | (go_at_call 12; (with_reducible refine (prio_Real.calls a0 t134 _ A8.out).mono ?_); rintro e w' ⟨rfl, ⟨nd, rfl⟩⟩) | (go_at_call 18; (with_reducible refine (crierref06_Real.calls k a0 t135 _ A9.out).mono ?_); rintro e w' ⟨rfl, ⟨nd, rfl⟩⟩) | (go_at_call 13; (with_reducible refine (prio_Mask.calls a2 a3 t136 _ A11.out).mono ?_); rintro e w29 ⟨rfl, hb⟩; have n0_ := Aside0.mk (below_step (by repeat (first | (with_reducible first | exact HB.out | apply below_alloc | apply pw_below_drewN | apply below_drew1) | exact HB.out)) hb); clear HB; have HB := n0_; clear n0_; (try clear hb); (try clear hb2); (try clear hk); (try clear hi)) | (go_at_call 19; (with_reducible refine (crierref06_Mask.calls k a2 a3 t137 _ A12.out).mono ?_); rintro e w' ⟨rfl, ⟨nd, rfl⟩⟩) | (go_at_call 14; (with_reducible refine (prio_Level.calls a0 a4 t138 _ A14.out).mono ?_); rintro e w' ⟨rfl, ⟨nd, rfl⟩⟩))
          go_ret
          exact ⟨by first | rfl | (simp [errW_none, errW_some] <;> rfl) | (simp [*, errW_none, errW_some] <;> rfl), by repeat (first | (with_reducible first | exact HB.out | apply below_alloc | apply pw_below_drewN | apply below_drew1) | exact HB.out)⟩
      · rw [if_neg c13] at H
        have c13b0 : (t136 == t137) = false := beq_eq_false_iff_ne.mpr c13
        have c13b1 : (t136 != t137) = true := bne_iff_ne.mpr c13
        obtain rfl := Option.some.inj H
        go_enter Try.func7, Try.ntmps7
        go_wp2_with (first | ((with_reducible refine gate_callee (f := 11) rfl ?_); refine goesL_ (some 11) rfl rfl Try.func11 (by kernel_rfl) rfl #[] rfl (by (try simp only [List.map_toArray, List.map_cons, List.map_nil]); first | done | rfl | (simp only [List.length_drop, List.length_take]; rfl)) ?_; (with_reducible refine (crierlaw06_awake.calls  true _ A6.out).mono ?_); rintro e w30 ⟨rfl, hb⟩; refine ⟨_, rfl, ?_⟩; have n0_ := Aside0.mk (below_step (by repeat (first | (with_reducible first | exact HB.out | apply below_alloc | apply pw_below_drewN | apply below_drew1) | exact HB.out)) hb); clear HB; have HB := n0_; clear n0_; (try clear hb); (try clear hb2); (try clear hk); (try clear hi)) | (go_at_call 12; (with_reducible refine (prio_Real.calls a0 t134 _ A8.out).mono ?_); rintro e w' ⟨rfl, ⟨nd, rfl⟩⟩) | (go_at_call 18; (with_reducible refine (crierref06_Real.calls k a0 t135 _ A9.out).mono ?_); rintro e w' ⟨rfl, ⟨nd, rfl⟩⟩) | (go_at_call 13; (with_reducible refine (prio_Mask.calls a2 a3 t136 _ A11.out).mono ?_); rintro e w31 ⟨rfl, hb⟩; have n0_ := Aside0.mk (below_step (by repeat (first | (with_reducible first | exact HB.out | apply below_alloc | apply pw_below_drewN | apply below_drew1) | exact HB.out)) hb); clear HB; have HB := n0_; clear n0_; (try clear hb); (try clear hb2); (try clear hk); (try clear hi)) | (go_at_call 19; (with_reducible refine (crierref06_Mask.calls k a2 a3 t137 _ A12.out).mono ?_); rintro e w' ⟨rfl, ⟨nd, rfl⟩⟩))
        go_ret
        exact ⟨by first | rfl | (simp [errW_none, errW_some] <;> rfl) | (simp [*, errW_none, errW_some] <;> rfl), by repeat (first | (with_reducible first | exact HB.out | apply below_alloc | apply pw_below_drewN | apply below_drew1) | exact HB.out)⟩
    · rw [if_neg c10] at H
      have c10b0 : (t134 == t135) = false := beq_eq_false_iff_ne.mpr c10
      have c10b1 : (t134 != t135) = true := bne_iff_ne.mpr c10
      obtain rfl := Option.some.inj H
      go_enter Try.func7, Try.ntmps7
      go_wp2_with (first | ((with_reducible refine gate_callee (f := 11) rfl ?_); refine goesL_ (some 11) rfl rfl Try.func11 (by kernel_rfl) rfl #[] rfl (by (try simp only [List.map_toArray, List.map_cons, List.map_nil]); first | done | rfl | (simp only [List.length_drop, List.length_take]; rfl)) ?_; (with_reducible refine (crierlaw06_awake.calls  true _ A6.out).mono ?_); rintro e w32 ⟨rfl, hb⟩; refine ⟨_, rfl, ?_⟩; have n0_ := Aside0.mk (below_step (by repeat (first | (with_reducible first | exact HB.out | apply below_alloc | apply pw_below_drewN | apply below_drew1) | exact HB.out)) hb); clear HB; have HB := n0_; clear n0_; (try clear hb); (try clear hb2); (try clear hk); (try clear hi)) | (go_at_call 12; (with_reducible refine (prio_Real.calls a0 t134 _ A8.out).mono ?_); rintro e w' ⟨rfl, ⟨nd, rfl⟩⟩) | (go_at_call 18; (with_reducible refine (crierref06_Real.calls k a0 t135 _ A9.out).mono ?_); rintro e w' ⟨rfl, ⟨nd, rfl⟩⟩))
      go_ret
      exact ⟨by first | rfl | (simp [errW_none, errW_some] <;> rfl) | (simp [*, errW_none, errW_some] <;> rfl), by repeat (first | (with_reducible first | exact HB.out | apply below_alloc | apply pw_below_drewN | apply below_drew1) | exact HB.out)⟩
  · replace c7 := Bool.eq_false_iff.mpr c7
    subst c7
    have H1 : (some false) = some r := by rw [if_neg (show ¬ (false = true) by decide)] at H; exact H
    clear H
    have H := H1
    clear H1
    obtain rfl := Option.some.inj H
    go_enter Try.func7, Try.ntmps7
    go_wp2_with (first | ((with_reducible refine gate_callee (f := 11) rfl ?_); refine goesL_ (some 11) rfl rfl Try.func11 (by kernel_rfl) rfl #[] rfl (by (try simp only [List.map_toArray, List.map_cons, List.map_nil]); first | done | rfl | (simp only [List.length_drop, List.length_take]; rfl)) ?_; (with_reducible refine (crierlaw06_awake.calls  false _ A6.out).mono ?_); rintro e w33 ⟨rfl, hb⟩; refine ⟨_, rfl, ?_⟩; have n0_ := Aside0.mk (below_step (by repeat (first | (with_reducible first | exact HB.out | apply below_alloc | apply pw_below_drewN | apply below_drew1) | exact HB.out)) hb); clear HB; have HB := n0_; clear n0_; (try clear hb); (try clear hb2); (try clear hk); (try clear hi)))
    go_ret
    exact ⟨by first | rfl | (simp [errW_none, errW_some] <;> rfl) | (simp [*, errW_none, errW_some] <;> rfl), by repeat (first | (with_reducible first | exact HB.out | apply below_alloc | apply pw_below_drewN | apply below_drew1) | exact HB.out)⟩

/-- THE ONE PURE STATEMENT of crierlaw06_PrioReckons: yours. -/
def crierlaw06_PrioReckons.Pure : Prop := ∀ (a0 : Int) (a1 : Int) (a2 : Int) (a3 : Int) (a4 : Int), (Lit.int .i64 a0).wf = true → (Lit.int .i64 a1).wf = true → (Lit.int .i64 a2).wf = true → (Lit.int .i64 a3).wf = true → (Lit.int .i64 a4).wf = true → ∃ k, crierlaw06_PrioReckons.f k a0 a1 a2 a3 a4 = some true
theorem crierlaw06_PrioReckons.walk (P : crierlaw06_PrioReckons.Pure) (a0 : Int) (a1 : Int) (a2 : Int) (a3 : Int) (a4 : Int) (w : World) (w0 : (Lit.int .i64 a0).wf = true) (w1 : (Lit.int .i64 a1).wf = true) (w2 : (Lit.int .i64 a2).wf = true) (w3 : (Lit.int .i64 a3).wf = true) (w4 : (Lit.int .i64 a4).wf = true) :
    Calls Try.prog 7 #[.int .i64 a0, .int .i64 a1, .int .i64 a2, .int .i64 a3, .int .i64 a4] w fun e w' => e = .returned (.bool true) ∧ Below w.heap.size w w' := by
  obtain ⟨k, h⟩ := P a0 a1 a2 a3 a4 w0 w1 w2 w3 w4
  refine (crierlaw06_PrioReckons.calls k a0 a1 a2 a3 a4 true w h).mono ?_
  rintro e w' ⟨rfl, hd⟩
  exact ⟨rfl, hd⟩

end Go.Proofs.Ytoldcfgedmjmfaa.IAll
