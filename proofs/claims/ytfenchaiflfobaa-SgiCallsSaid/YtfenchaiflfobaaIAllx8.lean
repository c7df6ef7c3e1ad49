-- Written by the program wip/gen/inj.py of this repository, out of the translation, for this claim. Not trusted: Lean checks it.
import Derived.Test.YtfenchaiflfobaaIAllx0
import Derived.Test.YtfenchaiflfobaaIAllx2
import Derived.Test.YtfenchaiflfobaaIAllx4
import Derived.Test.YtfenchaiflfobaaIAllx7
namespace Go.Proofs.Ytfenchaiflfobaa.IAll
open Go.RowKit Go.Proofs.YtfenchaiflfobaaW.PrintWords Go.Proofs.YtfenchaiflfobaaW.PrintLast Go.Proofs.YtfenchaiflfobaaW.PrintMore
attribute [local go_sem] max2_int min2_int max_two min_two max_three min_three max_four min_four   -- for this text's walks alone
set_option linter.unusedVariables false
set_option linter.unusedSimpArgs false

/-! ### crierlaw12_SgiCalls: function 4 -/
def crierlaw12_SgiCalls.f (k : Nat) (a0_0 : Int) (a0_1 : Bool) (a0_2 : Int) (a0_3 : Bool) (a1 : Int) (a2 : Int) : Option (Bool) := (crierref12_To.f k a0_1 a0_3 a0_2 a1 a2).bind fun t165 => ((crierlaw12_awake.f k).bind fun t168 => (if t168 = true then ((crierlaw12_to.f a0_0 a0_1 a0_2 a0_3 a1 a2).bind fun t169 => ((crierref01_Same.f k t169 t165).bind fun t172 => (if t172 = true then ((sgi_Many.f a0_0 a0_1 a0_2 a0_3 a1 a2).bind fun t173 => (some (t173 == (t165.length : Int)))) else (some false)))) else (some false)))
theorem crierlaw12_SgiCalls.mono : ∀ a0 a1 a2 a3 a4 a5 k, LeO (crierlaw12_SgiCalls.f k a0 a1 a2 a3 a4 a5) (crierlaw12_SgiCalls.f (k + 1) a0 a1 a2 a3 a4 a5) := by
  intro a0 a1 a2 a3 a4 a5 k
  unfold crierlaw12_SgiCalls.f
  repeat' first
      | (with_reducible exact crierlaw12_awake.mono _)
      | (with_reducible exact crierref01_Same.mono _ _ _)
      | (with_reducible exact crierref12_To.mono _ _ _ _ _ _)
      | (with_reducible exact LeO.refl _)
      | (with_reducible exact LeO.none _)
      | (with_reducible refine LeO.ite ?_ ?_)
      | (with_reducible refine LeO.bind ?_ (fun _ => ?_))
      | exact crierlaw12_awake.mono _
      | exact crierref01_Same.mono _ _ _
      | exact crierref12_To.mono _ _ _ _ _ _
      | exact LeO.none _
      | refine LeO.ite ?_ ?_
      | refine LeO.bind ?_ (fun _ => ?_)
set_option maxHeartbeats 8000000 in
set_option maxRecDepth 100000 in
theorem crierlaw12_SgiCalls.calls (k : Nat) (a0_0 : Int) (a0_1 : Bool) (a0_2 : Int) (a0_3 : Bool) (a1 : Int) (a2 : Int) (r : Bool) (w : World) (h : crierlaw12_SgiCalls.f k a0_0 a0_1 a0_2 a0_3 a1 a2 = some r) (hT_ : Aside0 (r = true)) :
    Calls Try.prog 4 #[.agg #[.int .i64 a0_0, .bool a0_1, .int .i64 a0_2, .bool a0_3], .int .i64 a1, .int .i64 a2] w fun e w' => e = .returned (.bool r) ∧ Below w.heap.size w w' := by
  have hu24 := Try.underlying24
  have HB := Aside0.mk (Below.refl w.heap.size w)
  have H : ((crierref12_To.f k a0_1 a0_3 a0_2 a1 a2).bind fun t165 => ((crierlaw12_awake.f k).bind fun t168 => (if t168 = true then ((crierlaw12_to.f a0_0 a0_1 a0_2 a0_3 a1 a2).bind fun t169 => ((crierref01_Same.f k t169 t165).bind fun t172 => (if t172 = true then ((sgi_Many.f a0_0 a0_1 a0_2 a0_3 a1 a2).bind fun t173 => (some (t173 == (t165.length : Int)))) else (some false)))) else (some false)))) = some r := h
  clear h
  replace H := Option.bind_eq_some_iff.mp H
  obtain ⟨t165, A40, H⟩ := H
  replace H : ((crierlaw12_awake.f k).bind fun t168 => (if t168 = true then ((crierlaw12_to.f a0_0 a0_1 a0_2 a0_3 a1 a2).bind fun t169 => ((crierref01_Same.f k t169 t165).bind fun t172 => (if t172 = true then ((sgi_Many.f a0_0 a0_1 a0_2 a0_3 a1 a2).bind fun t173 => (some (t173 == (t165.length : Int)))) else (some false)))) else (some false))) = some r := H
  have A4 := Aside0.mk A40
  clear A40
  replace H := Option.bind_eq_some_iff.mp H
  obtain ⟨t168, A50, H⟩ := H
  replace H : (if t168 = true then ((crierlaw12_to.f a0_0 a0_1 a0_2 a0_3 a1 a2).bind fun t169 => ((crierref01_Same.f k t169 t165).bind fun t172 => (if t172 = true then ((sgi_Many.f a0_0 a0_1 a0_2 a0_3 a1 a2).bind fun t173 => (some (t173 == (t165.length : Int)))) else (some false)))) else (some false)) = some r := H
  have A5 := Aside0.mk A50
  clear A50
  by_cases c6 : t168 = true
  · subst c6
    have H1 : ((crierlaw12_to.f a0_0 a0_1 a0_2 a0_3 a1 a2).bind fun t169 => ((crierref01_Same.f k t169 t165).bind fun t172 => (if t172 = true then ((sgi_Many.f a0_0 a0_1 a0_2 a0_3 a1 a2).bind fun t173 => (some (t173 == (t165.length : Int)))) else (some false)))) = some r := by first | (rw [if_pos rfl] at H; exact H) | (rw [if_pos trivial] at H; exact H)
    clear H
    have H := H1
    clear H1
    replace H := Option.bind_eq_some_iff.mp H
    obtain ⟨t169, A70, H⟩ := H
    replace H : ((crierref01_Same.f k t169 t165).bind fun t172 => (if t172 = true then ((sgi_Many.f a0_0 a0_1 a0_2 a0_3 a1 a2).bind fun t173 => (some (t173 == (t165.length : Int)))) else (some false))) = some r := H
    have A7 := Aside0.mk A70
    clear A70
    replace H := Option.bind_eq_some_iff.mp H
    obtain ⟨t172, A80, H⟩ := H
    replace H : (if t172 = true then ((sgi_Many.f a0_0 a0_1 a0_2 a0_3 a1 a2).bind fun t173 => (some (t173 == (t165.length : Int)))) else (some false)) = some r := H
    have A8 := Aside0.mk A80
    clear A80
    by_cases c9 : t172 = true
    · subst c9
      have H1 : ((sgi_Many.f a0_0 a0_1 a0_2 a0_3 a1 a2).bind fun t173 => (some (t173 == (t165.length : Int)))) = some r := by first | (rw [if_pos rfl] at H; exact H) | (rw [if_pos trivial] at H; exact H)
      clear H
      have H := H1
      clear H1
      replace H := Option.bind_eq_some_iff.mp H
      obtain ⟨t173, A100, H⟩ := H
      replace H : (some (t173 == (t165.length : Int))) = some r := H
      have A10 := Aside0.mk A100
      clear A100
      obtain rfl := Option.some.inj H
      go_enter Try.func4, Try.ntmps4
      go_wp2_with (first | ((with_reducible refine gate_dst (N := 3) rfl ?_); (try (refine gate_guard (by rfl) ?_; dsimp only)); refine box_event ?hg (N := 3) ?hd (cs := #[.int .i64 a0_0, .bool a0_1, .int .i64 a0_2, .bool a0_3]) (t := 24) ?hr ?_; (case hd => rfl); (case hg => rfl); (case hr => first | (go_simp; done) | (go_simp; rfl)); intro gb164 hg w11 hbox hb; have n0_ := Aside0.mk (below_step (by repeat (first | (with_reducible first | exact HB.out | apply below_alloc | apply pw_below_drewN | apply below_drew1) | exact HB.out)) hb); have n1_ := Aside0.mk (hbox); have n2_ := Aside0.mk ((by rw [hg]; exact (below_size (by repeat (first | (with_reducible first | exact HB.out | apply below_alloc | apply pw_below_drewN | apply below_drew1) | exact HB.out))) : w.heap.size ≤ gb164)); have n3_ := Aside0.mk ((by rw [hg]; exact (below_size (by repeat (first | (with_reducible first | exact HB.out | apply below_alloc | apply pw_below_drewN | apply below_drew1) | exact HB.out))) : w.heap.size ≤ gb164)); clear HB; have HB := n0_; have BK164 := n1_; have GW164 := n2_; have GE164 := n3_; clear n0_ n1_ n2_ n3_; clear hb hbox hg; have hcz12_0 : w11.cell? ⟨gb164, 0, none⟩ = some (.int .i64 a0_0) := (blk_cell BK164.out 0).trans rfl; have hcz12_1 : w11.cell? ⟨gb164, 1, none⟩ = some (.bool a0_1) := (blk_cell BK164.out 1).trans rfl; have hcz12_2 : w11.cell? ⟨gb164, 2, none⟩ = some (.int .i64 a0_2) := (blk_cell BK164.out 2).trans rfl; have hcz12_3 : w11.cell? ⟨gb164, 3, none⟩ = some (.bool a0_3) := (blk_cell BK164.out 3).trans rfl; have hfz12_0 := blk_frozen BK164.out 0; have hfz12_1 := blk_frozen BK164.out 1; have hfz12_2 := blk_frozen BK164.out 2; have hfz12_3 := blk_frozen BK164.out 3) | ((with_reducible refine gate_callee (f := 13) rfl ?_); refine goesL_ (some 16) rfl rfl Try.func13 (by kernel_rfl) rfl #[.bool a0_1, .bool a0_3, .int .i64 a0_2, .int .i64 a1, .int .i64 a2] rfl (by (try simp only [List.map_toArray, List.map_cons, List.map_nil]); first | done | rfl | (simp only [List.length_drop, List.length_take]; rfl)) ?_; (with_reducible refine (crierref12_To.calls k a0_1 a0_3 a0_2 a1 a2 t165 _ A4.out).mono ?_); rintro e w13 ⟨v166, rfl, ho0, hb⟩; refine ⟨_, rfl, ?_⟩; have n0_ := Aside0.mk (Kd.R_lower ho0 (below_size (by repeat (first | (with_reducible first | exact HB.out | apply below_alloc | apply pw_below_drewN | apply below_drew1 | refine below_set ?_ GE164.out) | exact HB.out)))); have n1_ := Aside0.mk (blk_below (g := gb164) (o := .cells #[.int .i64 a0_0, .bool a0_1, .int .i64 a0_2, .bool a0_3] 24 (0, 0)) (by (with_reducible repeat (first | refine blk_drewN ?_ _ | refine blk_drew ?_ | refine blk_alloc ?_ _)); exact BK164.out) hb); have n2_ := Aside0.mk (below_step (by repeat (first | (with_reducible first | exact HB.out | apply below_alloc | apply pw_below_drewN | apply below_drew1 | refine below_set ?_ GE164.out) | exact HB.out)) hb); clear BK164; clear HB; have HO167 := n0_; have BK164 := n1_; have HB := n2_; clear n0_ n1_ n2_; (try clear hb); (try clear hb2); (try clear hk); (try clear hi); (try clear ho0)) | ((with_reducible refine gate_callee (f := 10) rfl ?_); refine goesL_ (some 17) rfl rfl Try.func10 (by kernel_rfl) rfl #[] rfl (by (try simp only [List.map_toArray, List.map_cons, List.map_nil]); first | done | rfl | (simp only [List.length_drop, List.length_take]; rfl)) ?_; (with_reducible refine (crierlaw12_awake.calls k  true _ A5.out).mono ?_); rintro e w14 ⟨rfl, hb⟩; refine ⟨_, rfl, ?_⟩; have n0_ := Aside0.mk (Kd.R_below (by (with_reducible repeat (first | apply Kd.R_alloc | apply Kd.R_drewN | apply Kd.R_drew)); exact HO167.out) hb); have n1_ := Aside0.mk (blk_below (g := gb164) (o := .cells #[.int .i64 a0_0, .bool a0_1, .int .i64 a0_2, .bool a0_3] 24 (0, 0)) (by (with_reducible repeat (first | refine blk_drewN ?_ _ | refine blk_drew ?_ | refine blk_alloc ?_ _)); exact BK164.out) hb); have n2_ := Aside0.mk (below_step (by repeat (first | (with_reducible first | exact HB.out | apply below_alloc | apply pw_below_drewN | apply below_drew1 | refine below_set ?_ GE164.out) | exact HB.out)) hb); clear HO167; clear BK164; clear HB; have HO167 := n0_; have BK164 := n1_; have HB := n2_; clear n0_ n1_ n2_; (try clear hb); (try clear hb2); (try clear hk); (try clear hi); have hcz15_0 : w14.cell? ⟨gb164, 0, none⟩ = some (.int .i64 a0_0) := (blk_cell BK164.out 0).trans rfl; have hcz15_1 : w14.cell? ⟨gb164, 1, none⟩ = some (.bool a0_1) := (blk_cell BK164.out 1).trans rfl; have hcz15_2 : w14.cell? ⟨gb164, 2, none⟩ = some (.int .i64 a0_2) := (blk_cell BK164.out 2).trans rfl; have hcz15_3 : w14.cell? ⟨gb164, 3, none⟩ = some (.bool a0_3) := (blk_cell BK164.out 3).trans rfl; have hfz15_0 := blk_frozen BK164.out 0; have hfz15_1 := blk_frozen BK164.out 1; have hfz15_2 := blk_frozen BK164.out 2; have hfz15_3 := blk_frozen BK164.out 3) | (go_at_call 15; (with_reducible refine (crierlaw12_to.calls a0_0 a0_1 a0_2 a0_3 a1 a2 t169 _ A7.out).mono ?_); rintro e w16 ⟨v170, rfl, ho0, hb⟩; have n0_ := Aside0.mk (Kd.R_elder' (by (with_reducible repeat (first | apply Kd.R_alloc | apply Kd.R_drewN | apply Kd.R_drew)); exact HO167.out) (Kd.R_base ho0) hb); have n1_ := Aside0.mk (Kd.R_lower (Kd.R_new' ho0 (Kd.R_lt (by (with_reducible repeat (first | apply Kd.R_alloc | apply Kd.R_drewN | apply Kd.R_drew)); exact HO167.out))) (below_size (by repeat (first | (with_reducible first | exact HB.out | apply below_alloc | apply pw_below_drewN | apply below_drew1 | refine below_set ?_ GE164.out) | exact HB.out)))); have n2_ := Aside0.mk (blk_below (g := gb164) (o := .cells #[.int .i64 a0_0, .bool a0_1, .int .i64 a0_2, .bool a0_3] 24 (0, 0)) (by (with_reducible repeat (first | refine blk_drewN ?_ _ | refine blk_drew ?_ | refine blk_alloc ?_ _)); exact BK164.out) hb); have n3_ := Aside0.mk (below_step (by repeat (first | (with_reducible first | exact HB.out | apply below_alloc | apply pw_below_drewN | apply below_drew1 | refine below_set ?_ GE164.out) | exact HB.out)) hb); clear HO167; clear BK164; clear HB; have HO167 := n0_; have HO171 := n1_; have BK164 := n2_; have HB := n3_; clear n0_ n1_ n2_ n3_; (try clear hb); (try clear hb2); (try clear hk); (try clear hi); (try clear ho0); obtain ⟨Ao17, co17, eo17⟩ := Kd.R_slice HO171.out; subst eo17; obtain ⟨Ao18, co18, eo18⟩ := Kd.R_slice HO167.out; subst eo18) | (go_at_call 14; (with_reducible refine (crierref01_Same.calls k _ _ t169 _ _ t165 true _ ?side1 ?side2 ?side3 ?side4 A8.out).mono ?_); (case side1 => repeat (first | exact (Kd.R_reads' HO171.out).2.2 | (with_reducible refine Kd.C_alloc ?_ _) | (with_reducible refine Kd.C_drewN ?_ _) | (with_reducible refine Kd.C_drew ?_))); (case side2 => exact (Kd.R_reads' HO171.out).2.1); (case side3 => repeat (first | exact (Kd.R_reads' HO167.out).2.2 | (with_reducible refine Kd.C_alloc ?_ _) | (with_reducible refine Kd.C_drewN ?_ _) | (with_reducible refine Kd.C_drew ?_))); (case side4 => exact (Kd.R_reads' HO167.out).2.1); rintro e w' ⟨rfl, ⟨nd, rfl⟩⟩; have hcz19_0 : w16.cell? ⟨gb164, 0, none⟩ = some (.int .i64 a0_0) := (blk_cell BK164.out 0).trans rfl; have hcz19_1 : w16.cell? ⟨gb164, 1, none⟩ = some (.bool a0_1) := (blk_cell BK164.out 1).trans rfl; have hcz19_2 : w16.cell? ⟨gb164, 2, none⟩ = some (.int .i64 a0_2) := (blk_cell BK164.out 2).trans rfl; have hcz19_3 : w16.cell? ⟨gb164, 3, none⟩ = some (.bool a0_3) := (blk_cell BK164.out 3).trans rfl; have hfz19_0 := blk_frozen BK164.out 0; have hfz19_1 := blk_frozen BK164.out 1; have hfz19_2 := blk_frozen BK164.out 2; have hfz19_3 := blk_frozen BK164.out 3) | (go_at_call 16; (with_reducible refine (sgi_Many.calls a0_0 a0_1 a0_2 a0_3 a1 a2 t173 _ A10.out).mono ?_); rintro e w20 ⟨rfl, hb⟩; have n0_ := Aside0.mk (Kd.R_below (by (with_reducible repeat (first | apply Kd.R_alloc | apply Kd.R_drewN | apply Kd.R_drew)); exact HO167.out) hb); have n1_ := Aside0.mk (Kd.R_below (by (with_reducible repeat (first | apply Kd.R_alloc | apply Kd.R_drewN | apply Kd.R_drew)); exact HO171.out) hb); have n2_ := Aside0.mk (blk_below (g := gb164) (o := .cells #[.int .i64 a0_0, .bool a0_1, .int .i64 a0_2, .bool a0_3] 24 (0, 0)) (by (with_reducible repeat (first | refine blk_drewN ?_ _ | refine blk_drew ?_ | refine blk_alloc ?_ _)); exact BK164.out) hb); have n3_ := Aside0.mk (below_step (by repeat (first | (with_reducible first | exact HB.out | apply below_alloc | apply pw_below_drewN | apply below_drew1 | refine below_set ?_ GE164.out) | exact HB.out)) hb); clear HO167; clear HO171; clear BK164; clear HB; have HO167 := n0_; have HO171 := n1_; have BK164 := n2_; have HB := n3_; clear n0_ n1_ n2_ n3_; (try clear hb); (try clear hb2); (try clear hk); (try clear hi)))
      go_ret
      exact ⟨by first | rfl | (simp [errW_none, errW_some] <;> rfl) | (simp [*, errW_none, errW_some] <;> rfl), by repeat (first | (with_reducible first | exact HB.out | apply below_alloc | apply pw_below_drewN | apply below_drew1 | refine below_set ?_ GE164.out) | exact HB.out)⟩
    · replace c9 := Bool.eq_false_iff.mpr c9
      subst c9
      have H1 : (some false) = some r := by rw [if_neg (show ¬ (false = true) by decide)] at H; exact H
      clear H
      have H := H1
      clear H1
      obtain rfl := Option.some.inj H
      exact absurd hT_.out (by simp)
  · replace c6 := Bool.eq_false_iff.mpr c6
    subst c6
    have H1 : (some false) = some r := by rw [if_neg (show ¬ (false = true) by decide)] at H; exact H
    clear H
    have H := H1
    clear H1
    obtain rfl := Option.some.inj H
    exact absurd hT_.out (by simp)

end Go.Proofs.Ytfenchaiflfobaa.IAll
