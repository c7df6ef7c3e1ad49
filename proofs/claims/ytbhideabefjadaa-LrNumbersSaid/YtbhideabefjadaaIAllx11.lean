import Derived.Test.YtbhideabefjadaaIAllx0
-- Written by the program wip/gen/inj.py of this repository, out of the translation, for this claim. Not trusted: Lean checks it.
namespace Go.Proofs.Ytbhideabefjadaa.IAll
open Go.RowKit Go.Proofs.YtbhideabefjadaaW.PrintWords Go.Proofs.YtbhideabefjadaaW.PrintLast Go.Proofs.YtbhideabefjadaaW.PrintMore
attribute [local go_sem] max2_int min2_int max_two min_two max_three min_three max_four min_four   -- for this text's walks alone
set_option linter.unusedVariables false
set_option linter.unusedSimpArgs false
/-! ### crierref20_May: function 31 -/
mutual
def crierref20_May.j0 : Nat → Bool → Int → Int → Int → Int → Bool → Int → Bool → Option (Bool)
  | 0, _, _, _, _, _, _, _, _ => none
  | k + 1, x28, x162000, x162001, x162002, x162003, x162004, x162005, x162006 => if x28 = true then (some false) else (if x162002 < 0 then (crierref20_May.j1 k true x162000 x162001 x162002 x162003 x162004 x162005 x162006) else (if x162002 > 255 then (crierref20_May.j1 k true x162000 x162001 x162002 x162003 x162004 x162005 x162006) else (crierref20_May.j1 k ((Int.tmod x162002 8) != 0) x162000 x162001 x162002 x162003 x162004 x162005 x162006)))
def crierref20_May.j1 : Nat → Bool → Int → Int → Int → Int → Bool → Int → Bool → Option (Bool)
  | 0, _, _, _, _, _, _, _, _ => none
  | k + 1, x42, x162000, x162001, x162002, x162003, x162004, x162005, x162006 => if x42 = true then (some false) else (if x162005 < 0 then (crierref20_May.j2 k true x162000 x162001 x162002 x162003 x162004 x162005 x162006) else (if x162005 > 1023 then (crierref20_May.j2 k true x162000 x162001 x162002 x162003 x162004 x162005 x162006) else (if x162004 = true then (crierref20_May.j2 k false x162000 x162001 x162002 x162003 x162004 x162005 x162006) else (crierref20_May.j2 k (x162005 != 0) x162000 x162001 x162002 x162003 x162004 x162005 x162006))))
def crierref20_May.j2 : Nat → Bool → Int → Int → Int → Int → Bool → Int → Bool → Option (Bool)
  | 0, _, _, _, _, _, _, _, _ => none
  | k + 1, x60, x162000, x162001, x162002, x162003, x162004, x162005, x162006 => if x60 = true then (some false) else (if x162001 ≥ 0 then (if x162001 ≤ 1019 then (some true) else (if x162001 ≥ 8192 then (if x162001 ≤ 16383 then (if x162000 ≤ 1 then (some (!x162004)) else (some false)) else (some false)) else (some false))) else (if x162001 ≥ 8192 then (if x162001 ≤ 16383 then (if x162000 ≤ 1 then (some (!x162004)) else (some false)) else (some false)) else (some false)))
end
def crierref20_May.f (k : Nat) (a0_0 : Int) (a0_1 : Int) (a0_2 : Int) (a0_3 : Int) (a0_4 : Bool) (a0_5 : Int) (a0_6 : Bool) : Option (Bool) := if a0_0 < 0 then (crierref20_May.j0 k true a0_0 a0_1 a0_2 a0_3 a0_4 a0_5 a0_6) else (if a0_0 > 3 then (crierref20_May.j0 k true a0_0 a0_1 a0_2 a0_3 a0_4 a0_5 a0_6) else (if a0_3 = 0 then (if a0_4 = true then (crierref20_May.j0 k a0_6 a0_0 a0_1 a0_2 a0_3 a0_4 a0_5 a0_6) else (crierref20_May.j0 k false a0_0 a0_1 a0_2 a0_3 a0_4 a0_5 a0_6)) else (if a0_3 = 1 then (if a0_4 = true then (crierref20_May.j0 k a0_6 a0_0 a0_1 a0_2 a0_3 a0_4 a0_5 a0_6) else (crierref20_May.j0 k false a0_0 a0_1 a0_2 a0_3 a0_4 a0_5 a0_6)) else (crierref20_May.j0 k true a0_0 a0_1 a0_2 a0_3 a0_4 a0_5 a0_6))))
set_option maxHeartbeats 8000000 in
set_option maxRecDepth 100000 in
theorem crierref20_May.calls (k : Nat) (a0_0 : Int) (a0_1 : Int) (a0_2 : Int) (a0_3 : Int) (a0_4 : Bool) (a0_5 : Int) (a0_6 : Bool) (r : Bool) (w : World) (h : crierref20_May.f k a0_0 a0_1 a0_2 a0_3 a0_4 a0_5 a0_6 = some r) :
    Calls Try.prog 31 #[.agg #[.int .i64 a0_0, .int .i64 a0_1, .int .i64 a0_2, .int .i64 a0_3, .bool a0_4, .int .i64 a0_5, .bool a0_6]] w fun e w' => e = .returned (.bool r) ∧ Below w.heap.size w w' := by
  have hu24 := Try.underlying24
  have HB := Aside0.mk (Below.refl w.heap.size w)
  have H : (if a0_0 < 0 then (crierref20_May.j0 k true a0_0 a0_1 a0_2 a0_3 a0_4 a0_5 a0_6) else (if a0_0 > 3 then (crierref20_May.j0 k true a0_0 a0_1 a0_2 a0_3 a0_4 a0_5 a0_6) else (if a0_3 = 0 then (if a0_4 = true then (crierref20_May.j0 k a0_6 a0_0 a0_1 a0_2 a0_3 a0_4 a0_5 a0_6) else (crierref20_May.j0 k false a0_0 a0_1 a0_2 a0_3 a0_4 a0_5 a0_6)) else (if a0_3 = 1 then (if a0_4 = true then (crierref20_May.j0 k a0_6 a0_0 a0_1 a0_2 a0_3 a0_4 a0_5 a0_6) else (crierref20_May.j0 k false a0_0 a0_1 a0_2 a0_3 a0_4 a0_5 a0_6)) else (crierref20_May.j0 k true a0_0 a0_1 a0_2 a0_3 a0_4 a0_5 a0_6))))) = some r := h
  clear h
  have HC2 := Aside0.mk H
  clear H
  go_enter Try.func31, Try.ntmps31
  go_upto_region 1 with (first | ((with_reducible refine gate_dst (N := 1) rfl ?_); refine box_event ?hg (N := 1) ?hd (cs := #[.int .i64 a0_0, .int .i64 a0_1, .int .i64 a0_2, .int .i64 a0_3, .bool a0_4, .int .i64 a0_5, .bool a0_6]) (t := 24) ?hr ?_; (case hd => rfl); (case hg => rfl); (case hr => first | (go_simp; done) | (go_simp; rfl)); intro gb161 hg w3 hbox hb; have n0_ := Aside0.mk (below_step (by repeat (first | (with_reducible first | exact HB.out | apply below_alloc | apply pw_below_drewN | apply below_drew1) | exact HB.out)) hb); have n1_ := Aside0.mk (hbox); have n2_ := Aside0.mk ((by rw [hg]; exact (below_size (by repeat (first | (with_reducible first | exact HB.out | apply below_alloc | apply pw_below_drewN | apply below_drew1) | exact HB.out))) : w.heap.size ≤ gb161)); have n3_ := Aside0.mk ((by rw [hg]; exact (below_size (by repeat (first | (with_reducible first | exact HB.out | apply below_alloc | apply pw_below_drewN | apply below_drew1) | exact HB.out))) : w.heap.size ≤ gb161)); clear HB; have HB := n0_; have BK161 := n1_; have GW161 := n2_; have GE161 := n3_; clear n0_ n1_ n2_ n3_; clear hb hbox hg))
  (try simp only [Act.put, List.setIfInBounds_toArray, List.set_cons_zero, List.set_cons_succ])
  go_cut [28] (fun v28 wc => ∃ (kq : Nat) (x28_1 : Bool), v28 = .bool x28_1 ∧ Aside0 (crierref20_May.j0 kq x28_1 a0_0 a0_1 a0_2 a0_3 a0_4 a0_5 a0_6 = some r) ∧ Aside0 (kq ≤ k) ∧ Aside0 (wc.heap[gb161]? = some (.cells #[.int .i64 a0_0, .int .i64 a0_1, .int .i64 a0_2, .int .i64 a0_3, .bool a0_4, .int .i64 a0_5, .bool a0_6] 24 (0, 0))) ∧ Aside0 (Below w.heap.size w wc))
  case first =>
    have H := HC2.out
    clear HC2
    by_cases c4 : a0_0 < 0
    · rw [if_pos c4] at H
      have c4b0 : decide (a0_0 < 0) = true := decide_eq_true c4
      clear c4
      (first | rw [c4b0] | (simp only [i64_w, i32_w]; rw [c4b0]) | skip)
      have H' := Aside0.mk H
      clear H
      have hcz5_0 : w3.cell? ⟨gb161, 0, none⟩ = some (.int .i64 a0_0) := (blk_cell BK161.out 0).trans rfl
      have hcz5_1 : w3.cell? ⟨gb161, 1, none⟩ = some (.int .i64 a0_1) := (blk_cell BK161.out 1).trans rfl
      have hcz5_2 : w3.cell? ⟨gb161, 2, none⟩ = some (.int .i64 a0_2) := (blk_cell BK161.out 2).trans rfl
      have hcz5_3 : w3.cell? ⟨gb161, 3, none⟩ = some (.int .i64 a0_3) := (blk_cell BK161.out 3).trans rfl
      have hcz5_4 : w3.cell? ⟨gb161, 4, none⟩ = some (.bool a0_4) := (blk_cell BK161.out 4).trans rfl
      have hcz5_5 : w3.cell? ⟨gb161, 5, none⟩ = some (.int .i64 a0_5) := (blk_cell BK161.out 5).trans rfl
      have hcz5_6 : w3.cell? ⟨gb161, 6, none⟩ = some (.bool a0_6) := (blk_cell BK161.out 6).trans rfl
      have hfz5_0 := blk_frozen BK161.out 0
      have hfz5_1 := blk_frozen BK161.out 1
      have hfz5_2 := blk_frozen BK161.out 2
      have hfz5_3 := blk_frozen BK161.out 3
      have hfz5_4 := blk_frozen BK161.out 4
      have hfz5_5 := blk_frozen BK161.out 5
      have hfz5_6 := blk_frozen BK161.out 6
      go_wp2
      go_meet
      case rel => exact ⟨_, (true), (by first | rfl | (simp; done) | (simp [*]; done) | (simp; exact (IntWalk.wrap64_in _ (by decide)).symm)), H', ⟨by first | omega | exact Nat.le_refl _⟩, ⟨by (with_reducible repeat (first | refine blk_drewN ?_ _ | refine blk_drew ?_ | refine blk_alloc ?_ _)); exact BK161.out⟩, ⟨by repeat (first | (with_reducible first | exact HB.out | apply below_alloc | apply pw_below_drewN | apply below_drew1 | refine below_set ?_ GE161.out) | exact HB.out)⟩⟩
    · rw [if_neg c4] at H
      have c4b0 : decide (a0_0 < 0) = false := decide_eq_false c4
      clear c4
      (first | rw [c4b0] | (simp only [i64_w, i32_w]; rw [c4b0]) | skip)
      by_cases c6 : a0_0 > 3
      · rw [if_pos c6] at H
        have c6b0 : decide (3 < a0_0) = true := decide_eq_true c6
        clear c6
        have H' := Aside0.mk H
        clear H
        have hcz7_0 : w3.cell? ⟨gb161, 0, none⟩ = some (.int .i64 a0_0) := (blk_cell BK161.out 0).trans rfl
        have hcz7_1 : w3.cell? ⟨gb161, 1, none⟩ = some (.int .i64 a0_1) := (blk_cell BK161.out 1).trans rfl
        have hcz7_2 : w3.cell? ⟨gb161, 2, none⟩ = some (.int .i64 a0_2) := (blk_cell BK161.out 2).trans rfl
        have hcz7_3 : w3.cell? ⟨gb161, 3, none⟩ = some (.int .i64 a0_3) := (blk_cell BK161.out 3).trans rfl
        have hcz7_4 : w3.cell? ⟨gb161, 4, none⟩ = some (.bool a0_4) := (blk_cell BK161.out 4).trans rfl
        have hcz7_5 : w3.cell? ⟨gb161, 5, none⟩ = some (.int .i64 a0_5) := (blk_cell BK161.out 5).trans rfl
        have hcz7_6 : w3.cell? ⟨gb161, 6, none⟩ = some (.bool a0_6) := (blk_cell BK161.out 6).trans rfl
        have hfz7_0 := blk_frozen BK161.out 0
        have hfz7_1 := blk_frozen BK161.out 1
        have hfz7_2 := blk_frozen BK161.out 2
        have hfz7_3 := blk_frozen BK161.out 3
        have hfz7_4 := blk_frozen BK161.out 4
        have hfz7_5 := blk_frozen BK161.out 5
        have hfz7_6 := blk_frozen BK161.out 6
        go_wp2
        go_meet
        case rel => exact ⟨_, (true), (by first | rfl | (simp; done) | (simp [*]; done) | (simp; exact (IntWalk.wrap64_in _ (by decide)).symm)), H', ⟨by first | omega | exact Nat.le_refl _⟩, ⟨by (with_reducible repeat (first | refine blk_drewN ?_ _ | refine blk_drew ?_ | refine blk_alloc ?_ _)); exact BK161.out⟩, ⟨by repeat (first | (with_reducible first | exact HB.out | apply below_alloc | apply pw_below_drewN | apply below_drew1 | refine below_set ?_ GE161.out) | exact HB.out)⟩⟩
      · rw [if_neg c6] at H
        have c6b0 : decide (3 < a0_0) = false := decide_eq_false c6
        clear c6
        by_cases c8 : a0_3 = 0
        · rw [if_pos c8] at H
          have c8b0 : (a0_3 == 0) = true := beq_iff_eq.mpr c8
          have c8b1 : (a0_3 != 0) = false := bne_eq_false_iff_eq.mpr c8
          clear c8
          by_cases c9 : a0_4 = true
          · subst c9
            have H1 : (crierref20_May.j0 k a0_6 a0_0 a0_1 a0_2 a0_3 true a0_5 a0_6) = some r := by first | (rw [if_pos rfl] at H; exact H) | (rw [if_pos trivial] at H; exact H)
            clear H
            have H := H1
            clear H1
            have H' := Aside0.mk H
            clear H
            have hcz10_0 : w3.cell? ⟨gb161, 0, none⟩ = some (.int .i64 a0_0) := (blk_cell BK161.out 0).trans rfl
            have hcz10_1 : w3.cell? ⟨gb161, 1, none⟩ = some (.int .i64 a0_1) := (blk_cell BK161.out 1).trans rfl
            have hcz10_2 : w3.cell? ⟨gb161, 2, none⟩ = some (.int .i64 a0_2) := (blk_cell BK161.out 2).trans rfl
            have hcz10_3 : w3.cell? ⟨gb161, 3, none⟩ = some (.int .i64 a0_3) := (blk_cell BK161.out 3).trans rfl
            have hcz10_4 : w3.cell? ⟨gb161, 4, none⟩ = some (.bool true) := (blk_cell BK161.out 4).trans rfl
            have hcz10_5 : w3.cell? ⟨gb161, 5, none⟩ = some (.int .i64 a0_5) := (blk_cell BK161.out 5).trans rfl
            have hcz10_6 : w3.cell? ⟨gb161, 6, none⟩ = some (.bool a0_6) := (blk_cell BK161.out 6).trans rfl
            have hfz10_0 := blk_frozen BK161.out 0
            have hfz10_1 := blk_frozen BK161.out 1
            have hfz10_2 := blk_frozen BK161.out 2
            have hfz10_3 := blk_frozen BK161.out 3
            have hfz10_4 := blk_frozen BK161.out 4
            have hfz10_5 := blk_frozen BK161.out 5
            have hfz10_6 := blk_frozen BK161.out 6
            go_wp2
            go_meet
            case rel => exact ⟨_, (a0_6), (by first | rfl | (simp; done) | (simp [*]; done) | (simp; exact (IntWalk.wrap64_in _ (by decide)).symm)), H', ⟨by first | omega | exact Nat.le_refl _⟩, ⟨by (with_reducible repeat (first | refine blk_drewN ?_ _ | refine blk_drew ?_ | refine blk_alloc ?_ _)); exact BK161.out⟩, ⟨by repeat (first | (with_reducible first | exact HB.out | apply below_alloc | apply pw_below_drewN | apply below_drew1 | refine below_set ?_ GE161.out) | exact HB.out)⟩⟩
          · replace c9 := Bool.eq_false_iff.mpr c9
            subst c9
            have H1 : (crierref20_May.j0 k false a0_0 a0_1 a0_2 a0_3 false a0_5 a0_6) = some r := by rw [if_neg (show ¬ (false = true) by decide)] at H; exact H
            clear H
            have H := H1
            clear H1
            have H' := Aside0.mk H
            clear H
            have hcz11_0 : w3.cell? ⟨gb161, 0, none⟩ = some (.int .i64 a0_0) := (blk_cell BK161.out 0).trans rfl
            have hcz11_1 : w3.cell? ⟨gb161, 1, none⟩ = some (.int .i64 a0_1) := (blk_cell BK161.out 1).trans rfl
            have hcz11_2 : w3.cell? ⟨gb161, 2, none⟩ = some (.int .i64 a0_2) := (blk_cell BK161.out 2).trans rfl
            have hcz11_3 : w3.cell? ⟨gb161, 3, none⟩ = some (.int .i64 a0_3) := (blk_cell BK161.out 3).trans rfl
            have hcz11_4 : w3.cell? ⟨gb161, 4, none⟩ = some (.bool false) := (blk_cell BK161.out 4).trans rfl
            have hcz11_5 : w3.cell? ⟨gb161, 5, none⟩ = some (.int .i64 a0_5) := (blk_cell BK161.out 5).trans rfl
            have hcz11_6 : w3.cell? ⟨gb161, 6, none⟩ = some (.bool a0_6) := (blk_cell BK161.out 6).trans rfl
            have hfz11_0 := blk_frozen BK161.out 0
            have hfz11_1 := blk_frozen BK161.out 1
            have hfz11_2 := blk_frozen BK161.out 2
            have hfz11_3 := blk_frozen BK161.out 3
            have hfz11_4 := blk_frozen BK161.out 4
            have hfz11_5 := blk_frozen BK161.out 5
            have hfz11_6 := blk_frozen BK161.out 6
            go_wp2
            go_meet
            case rel => exact ⟨_, (false), (by first | rfl | (simp; done) | (simp [*]; done) | (simp; exact (IntWalk.wrap64_in _ (by decide)).symm)), H', ⟨by first | omega | exact Nat.le_refl _⟩, ⟨by (with_reducible repeat (first | refine blk_drewN ?_ _ | refine blk_drew ?_ | refine blk_alloc ?_ _)); exact BK161.out⟩, ⟨by repeat (first | (with_reducible first | exact HB.out | apply below_alloc | apply pw_below_drewN | apply below_drew1 | refine below_set ?_ GE161.out) | exact HB.out)⟩⟩
        · rw [if_neg c8] at H
          have c8b0 : (a0_3 == 0) = false := beq_eq_false_iff_ne.mpr c8
          have c8b1 : (a0_3 != 0) = true := bne_iff_ne.mpr c8
          by_cases c12 : a0_3 = 1
          · rw [if_pos c12] at H
            have c12b0 : (a0_3 == 1) = true := beq_iff_eq.mpr c12
            have c12b1 : (a0_3 != 1) = false := bne_eq_false_iff_eq.mpr c12
            clear c12
            by_cases c13 : a0_4 = true
            · subst c13
              have H1 : (crierref20_May.j0 k a0_6 a0_0 a0_1 a0_2 a0_3 true a0_5 a0_6) = some r := by first | (rw [if_pos rfl] at H; exact H) | (rw [if_pos trivial] at H; exact H)
              clear H
              have H := H1
              clear H1
              have H' := Aside0.mk H
              clear H
              have hcz14_0 : w3.cell? ⟨gb161, 0, none⟩ = some (.int .i64 a0_0) := (blk_cell BK161.out 0).trans rfl
              have hcz14_1 : w3.cell? ⟨gb161, 1, none⟩ = some (.int .i64 a0_1) := (blk_cell BK161.out 1).trans rfl
              have hcz14_2 : w3.cell? ⟨gb161, 2, none⟩ = some (.int .i64 a0_2) := (blk_cell BK161.out 2).trans rfl
              have hcz14_3 : w3.cell? ⟨gb161, 3, none⟩ = some (.int .i64 a0_3) := (blk_cell BK161.out 3).trans rfl
              have hcz14_4 : w3.cell? ⟨gb161, 4, none⟩ = some (.bool true) := (blk_cell BK161.out 4).trans rfl
              have hcz14_5 : w3.cell? ⟨gb161, 5, none⟩ = some (.int .i64 a0_5) := (blk_cell BK161.out 5).trans rfl
              have hcz14_6 : w3.cell? ⟨gb161, 6, none⟩ = some (.bool a0_6) := (blk_cell BK161.out 6).trans rfl
              have hfz14_0 := blk_frozen BK161.out 0
              have hfz14_1 := blk_frozen BK161.out 1
              have hfz14_2 := blk_frozen BK161.out 2
              have hfz14_3 := blk_frozen BK161.out 3
              have hfz14_4 := blk_frozen BK161.out 4
              have hfz14_5 := blk_frozen BK161.out 5
              have hfz14_6 := blk_frozen BK161.out 6
              go_wp2
              go_meet
              case rel => exact ⟨_, (a0_6), (by first | rfl | (simp; done) | (simp [*]; done) | (simp; exact (IntWalk.wrap64_in _ (by decide)).symm)), H', ⟨by first | omega | exact Nat.le_refl _⟩, ⟨by (with_reducible repeat (first | refine blk_drewN ?_ _ | refine blk_drew ?_ | refine blk_alloc ?_ _)); exact BK161.out⟩, ⟨by repeat (first | (with_reducible first | exact HB.out | apply below_alloc | apply pw_below_drewN | apply below_drew1 | refine below_set ?_ GE161.out) | exact HB.out)⟩⟩
            · replace c13 := Bool.eq_false_iff.mpr c13
              subst c13
              have H1 : (crierref20_May.j0 k false a0_0 a0_1 a0_2 a0_3 false a0_5 a0_6) = some r := by rw [if_neg (show ¬ (false = true) by decide)] at H; exact H
              clear H
              have H := H1
              clear H1
              have H' := Aside0.mk H
              clear H
              have hcz15_0 : w3.cell? ⟨gb161, 0, none⟩ = some (.int .i64 a0_0) := (blk_cell BK161.out 0).trans rfl
              have hcz15_1 : w3.cell? ⟨gb161, 1, none⟩ = some (.int .i64 a0_1) := (blk_cell BK161.out 1).trans rfl
              have hcz15_2 : w3.cell? ⟨gb161, 2, none⟩ = some (.int .i64 a0_2) := (blk_cell BK161.out 2).trans rfl
              have hcz15_3 : w3.cell? ⟨gb161, 3, none⟩ = some (.int .i64 a0_3) := (blk_cell BK161.out 3).trans rfl
              have hcz15_4 : w3.cell? ⟨gb161, 4, none⟩ = some (.bool false) := (blk_cell BK161.out 4).trans rfl
              have hcz15_5 : w3.cell? ⟨gb161, 5, none⟩ = some (.int .i64 a0_5) := (blk_cell BK161.out 5).trans rfl
              have hcz15_6 : w3.cell? ⟨gb161, 6, none⟩ = some (.bool a0_6) := (blk_cell BK161.out 6).trans rfl
              have hfz15_0 := blk_frozen BK161.out 0
              have hfz15_1 := blk_frozen BK161.out 1
              have hfz15_2 := blk_frozen BK161.out 2
              have hfz15_3 := blk_frozen BK161.out 3
              have hfz15_4 := blk_frozen BK161.out 4
              have hfz15_5 := blk_frozen BK161.out 5
              have hfz15_6 := blk_frozen BK161.out 6
              go_wp2
              go_meet
              case rel => exact ⟨_, (false), (by first | rfl | (simp; done) | (simp [*]; done) | (simp; exact (IntWalk.wrap64_in _ (by decide)).symm)), H', ⟨by first | omega | exact Nat.le_refl _⟩, ⟨by (with_reducible repeat (first | refine blk_drewN ?_ _ | refine blk_drew ?_ | refine blk_alloc ?_ _)); exact BK161.out⟩, ⟨by repeat (first | (with_reducible first | exact HB.out | apply below_alloc | apply pw_below_drewN | apply below_drew1 | refine below_set ?_ GE161.out) | exact HB.out)⟩⟩
          · rw [if_neg c12] at H
            have c12b0 : (a0_3 == 1) = false := beq_eq_false_iff_ne.mpr c12
            have c12b1 : (a0_3 != 1) = true := bne_iff_ne.mpr c12
            have H' := Aside0.mk H
            clear H
            have hcz16_0 : w3.cell? ⟨gb161, 0, none⟩ = some (.int .i64 a0_0) := (blk_cell BK161.out 0).trans rfl
            have hcz16_1 : w3.cell? ⟨gb161, 1, none⟩ = some (.int .i64 a0_1) := (blk_cell BK161.out 1).trans rfl
            have hcz16_2 : w3.cell? ⟨gb161, 2, none⟩ = some (.int .i64 a0_2) := (blk_cell BK161.out 2).trans rfl
            have hcz16_3 : w3.cell? ⟨gb161, 3, none⟩ = some (.int .i64 a0_3) := (blk_cell BK161.out 3).trans rfl
            have hcz16_4 : w3.cell? ⟨gb161, 4, none⟩ = some (.bool a0_4) := (blk_cell BK161.out 4).trans rfl
            have hcz16_5 : w3.cell? ⟨gb161, 5, none⟩ = some (.int .i64 a0_5) := (blk_cell BK161.out 5).trans rfl
            have hcz16_6 : w3.cell? ⟨gb161, 6, none⟩ = some (.bool a0_6) := (blk_cell BK161.out 6).trans rfl
            have hfz16_0 := blk_frozen BK161.out 0
            have hfz16_1 := blk_frozen BK161.out 1
            have hfz16_2 := blk_frozen BK161.out 2
            have hfz16_3 := blk_frozen BK161.out 3
            have hfz16_4 := blk_frozen BK161.out 4
            have hfz16_5 := blk_frozen BK161.out 5
            have hfz16_6 := blk_frozen BK161.out 6
            go_wp2
            go_meet
            case rel => exact ⟨_, (true), (by first | rfl | (simp; done) | (simp [*]; done) | (simp; exact (IntWalk.wrap64_in _ (by decide)).symm)), H', ⟨by first | omega | exact Nat.le_refl _⟩, ⟨by (with_reducible repeat (first | refine blk_drewN ?_ _ | refine blk_drew ?_ | refine blk_alloc ?_ _)); exact BK161.out⟩, ⟨by repeat (first | (with_reducible first | exact HB.out | apply below_alloc | apply pw_below_drewN | apply below_drew1 | refine below_set ?_ GE161.out) | exact HB.out)⟩⟩
  case rest =>
    clear HC2
    try clear c1
    try clear p2
    try clear c3
    try clear c4
    try clear c4b0
    try clear c6
    try clear c6b0
    try clear c8
    try clear c8b0
    try clear c8b1
    try clear c9
    try clear c12
    try clear c12b0
    try clear c12b1
    try clear c13
    try clear hcz10_0
    try clear hcz10_1
    try clear hcz10_2
    try clear hcz10_3
    try clear hcz10_4
    try clear hcz10_5
    try clear hcz10_6
    try clear hcz11_0
    try clear hcz11_1
    try clear hcz11_2
    try clear hcz11_3
    try clear hcz11_4
    try clear hcz11_5
    try clear hcz11_6
    try clear hcz14_0
    try clear hcz14_1
    try clear hcz14_2
    try clear hcz14_3
    try clear hcz14_4
    try clear hcz14_5
    try clear hcz14_6
    try clear hcz15_0
    try clear hcz15_1
    try clear hcz15_2
    try clear hcz15_3
    try clear hcz15_4
    try clear hcz15_5
    try clear hcz15_6
    try clear hcz16_0
    try clear hcz16_1
    try clear hcz16_2
    try clear hcz16_3
    try clear hcz16_4
    try clear hcz16_5
    try clear hcz16_6
    try clear hcz5_0
    try clear hcz5_1
    try clear hcz5_2
    try clear hcz5_3
    try clear hcz5_4
    try clear hcz5_5
    try clear hcz5_6
    try clear hcz7_0
    try clear hcz7_1
    try clear hcz7_2
    try clear hcz7_3
    try clear hcz7_4
    try clear hcz7_5
    try clear hcz7_6
    try clear hfz10_0
    try clear hfz10_1
    try clear hfz10_2
    try clear hfz10_3
    try clear hfz10_4
    try clear hfz10_5
    try clear hfz10_6
    try clear hfz11_0
    try clear hfz11_1
    try clear hfz11_2
    try clear hfz11_3
    try clear hfz11_4
    try clear hfz11_5
    try clear hfz11_6
    try clear hfz14_0
    try clear hfz14_1
    try clear hfz14_2
    try clear hfz14_3
    try clear hfz14_4
    try clear hfz14_5
    try clear hfz14_6
    try clear hfz15_0
    try clear hfz15_1
    try clear hfz15_2
    try clear hfz15_3
    try clear hfz15_4
    try clear hfz15_5
    try clear hfz15_6
    try clear hfz16_0
    try clear hfz16_1
    try clear hfz16_2
    try clear hfz16_3
    try clear hfz16_4
    try clear hfz16_5
    try clear hfz16_6
    try clear hfz5_0
    try clear hfz5_1
    try clear hfz5_2
    try clear hfz5_3
    try clear hfz5_4
    try clear hfz5_5
    try clear hfz5_6
    try clear hfz7_0
    try clear hfz7_1
    try clear hfz7_2
    try clear hfz7_3
    try clear hfz7_4
    try clear hfz7_5
    try clear hfz7_6
    obtain ⟨kq, x28_1, rfl, HA, HJ1, BK161, HB⟩ := hcut
    cases kq with
    | zero => exact absurd HA.out (by simp [crierref20_May.j0])
    | succ kj1 =>
      have H := HA.out
      clear HA
      simp only [crierref20_May.j0] at H
      by_cases c17 : x28_1 = true
      · subst c17
        have H1 : (some false) = some r := by first | (rw [if_pos rfl] at H; exact H) | (rw [if_pos trivial] at H; exact H)
        clear H
        have H := H1
        clear H1
        obtain rfl := Option.some.inj H
        go_wp2
        go_ret
        exact ⟨by first | rfl | (simp [errW_none, errW_some] <;> rfl) | (simp [*, errW_none, errW_some] <;> rfl), by repeat (first | (with_reducible first | exact HB.out | apply below_alloc | apply pw_below_drewN | apply below_drew1 | refine below_set ?_ GE161.out) | exact HB.out)⟩
      · replace c17 := Bool.eq_false_iff.mpr c17
        subst c17
        have H1 : (if a0_2 < 0 then (crierref20_May.j1 kj1 true a0_0 a0_1 a0_2 a0_3 a0_4 a0_5 a0_6) else (if a0_2 > 255 then (crierref20_May.j1 kj1 true a0_0 a0_1 a0_2 a0_3 a0_4 a0_5 a0_6) else (crierref20_May.j1 kj1 ((Int.tmod a0_2 8) != 0) a0_0 a0_1 a0_2 a0_3 a0_4 a0_5 a0_6))) = some r := by rw [if_neg (show ¬ (false = true) by decide)] at H; exact H
        clear H
        have H := H1
        clear H1
        have HC18 := Aside0.mk H
        clear H
        go_upto_region 3 with (fail)
        go_cut [42] (fun v42 wc => ∃ (kq : Nat) (x42_17 : Bool), v42 = .bool x42_17 ∧ Aside0 (crierref20_May.j1 kq x42_17 a0_0 a0_1 a0_2 a0_3 a0_4 a0_5 a0_6 = some r) ∧ Aside0 (kq ≤ kj1) ∧ Aside0 (wc.heap[gb161]? = some (.cells #[.int .i64 a0_0, .int .i64 a0_1, .int .i64 a0_2, .int .i64 a0_3, .bool a0_4, .int .i64 a0_5, .bool a0_6] 24 (0, 0))) ∧ Aside0 (Below w.heap.size w wc))
        case first =>
          have H := HC18.out
          clear HC18
          by_cases c19 : a0_2 < 0
          · rw [if_pos c19] at H
            have c19b0 : decide (a0_2 < 0) = true := decide_eq_true c19
            clear c19
            (first | rw [c19b0] | (simp only [i64_w, i32_w]; rw [c19b0]) | skip)
            have H' := Aside0.mk H
            clear H
            have hcz20_0 : wc.cell? ⟨gb161, 0, none⟩ = some (.int .i64 a0_0) := (blk_cell BK161.out 0).trans rfl
            have hcz20_1 : wc.cell? ⟨gb161, 1, none⟩ = some (.int .i64 a0_1) := (blk_cell BK161.out 1).trans rfl
            have hcz20_2 : wc.cell? ⟨gb161, 2, none⟩ = some (.int .i64 a0_2) := (blk_cell BK161.out 2).trans rfl
            have hcz20_3 : wc.cell? ⟨gb161, 3, none⟩ = some (.int .i64 a0_3) := (blk_cell BK161.out 3).trans rfl
            have hcz20_4 : wc.cell? ⟨gb161, 4, none⟩ = some (.bool a0_4) := (blk_cell BK161.out 4).trans rfl
            have hcz20_5 : wc.cell? ⟨gb161, 5, none⟩ = some (.int .i64 a0_5) := (blk_cell BK161.out 5).trans rfl
            have hcz20_6 : wc.cell? ⟨gb161, 6, none⟩ = some (.bool a0_6) := (blk_cell BK161.out 6).trans rfl
            have hfz20_0 := blk_frozen BK161.out 0
            have hfz20_1 := blk_frozen BK161.out 1
            have hfz20_2 := blk_frozen BK161.out 2
            have hfz20_3 := blk_frozen BK161.out 3
            have hfz20_4 := blk_frozen BK161.out 4
            have hfz20_5 := blk_frozen BK161.out 5
            have hfz20_6 := blk_frozen BK161.out 6
            go_wp2
            go_meet
            case rel => exact ⟨_, (true), (by first | rfl | (simp; done) | (simp [*]; done) | (simp; exact (IntWalk.wrap64_in _ (by decide)).symm)), H', ⟨by have := HJ1.out; first | omega | exact Nat.le_refl _⟩, ⟨by (with_reducible repeat (first | refine blk_drewN ?_ _ | refine blk_drew ?_ | refine blk_alloc ?_ _)); exact BK161.out⟩, ⟨by repeat (first | (with_reducible first | exact HB.out | apply below_alloc | apply pw_below_drewN | apply below_drew1 | refine below_set ?_ GE161.out) | exact HB.out)⟩⟩
          · rw [if_neg c19] at H
            have c19b0 : decide (a0_2 < 0) = false := decide_eq_false c19
            clear c19
            (first | rw [c19b0] | (simp only [i64_w, i32_w]; rw [c19b0]) | skip)
            by_cases c21 : a0_2 > 255
            · rw [if_pos c21] at H
              have c21b0 : decide (255 < a0_2) = true := decide_eq_true c21
              clear c21
              have H' := Aside0.mk H
              clear H
              have hcz22_0 : wc.cell? ⟨gb161, 0, none⟩ = some (.int .i64 a0_0) := (blk_cell BK161.out 0).trans rfl
              have hcz22_1 : wc.cell? ⟨gb161, 1, none⟩ = some (.int .i64 a0_1) := (blk_cell BK161.out 1).trans rfl
              have hcz22_2 : wc.cell? ⟨gb161, 2, none⟩ = some (.int .i64 a0_2) := (blk_cell BK161.out 2).trans rfl
              have hcz22_3 : wc.cell? ⟨gb161, 3, none⟩ = some (.int .i64 a0_3) := (blk_cell BK161.out 3).trans rfl
              have hcz22_4 : wc.cell? ⟨gb161, 4, none⟩ = some (.bool a0_4) := (blk_cell BK161.out 4).trans rfl
              have hcz22_5 : wc.cell? ⟨gb161, 5, none⟩ = some (.int .i64 a0_5) := (blk_cell BK161.out 5).trans rfl
              have hcz22_6 : wc.cell? ⟨gb161, 6, none⟩ = some (.bool a0_6) := (blk_cell BK161.out 6).trans rfl
              have hfz22_0 := blk_frozen BK161.out 0
              have hfz22_1 := blk_frozen BK161.out 1
              have hfz22_2 := blk_frozen BK161.out 2
              have hfz22_3 := blk_frozen BK161.out 3
              have hfz22_4 := blk_frozen BK161.out 4
              have hfz22_5 := blk_frozen BK161.out 5
              have hfz22_6 := blk_frozen BK161.out 6
              go_wp2
              go_meet
              case rel => exact ⟨_, (true), (by first | rfl | (simp; done) | (simp [*]; done) | (simp; exact (IntWalk.wrap64_in _ (by decide)).symm)), H', ⟨by have := HJ1.out; first | omega | exact Nat.le_refl _⟩, ⟨by (with_reducible repeat (first | refine blk_drewN ?_ _ | refine blk_drew ?_ | refine blk_alloc ?_ _)); exact BK161.out⟩, ⟨by repeat (first | (with_reducible first | exact HB.out | apply below_alloc | apply pw_below_drewN | apply below_drew1 | refine below_set ?_ GE161.out) | exact HB.out)⟩⟩
            · rw [if_neg c21] at H
              have c21b0 : decide (255 < a0_2) = false := decide_eq_false c21
              clear c21
              have H' := Aside0.mk H
              clear H
              have hcz23_0 : wc.cell? ⟨gb161, 0, none⟩ = some (.int .i64 a0_0) := (blk_cell BK161.out 0).trans rfl
              have hcz23_1 : wc.cell? ⟨gb161, 1, none⟩ = some (.int .i64 a0_1) := (blk_cell BK161.out 1).trans rfl
              have hcz23_2 : wc.cell? ⟨gb161, 2, none⟩ = some (.int .i64 a0_2) := (blk_cell BK161.out 2).trans rfl
              have hcz23_3 : wc.cell? ⟨gb161, 3, none⟩ = some (.int .i64 a0_3) := (blk_cell BK161.out 3).trans rfl
              have hcz23_4 : wc.cell? ⟨gb161, 4, none⟩ = some (.bool a0_4) := (blk_cell BK161.out 4).trans rfl
              have hcz23_5 : wc.cell? ⟨gb161, 5, none⟩ = some (.int .i64 a0_5) := (blk_cell BK161.out 5).trans rfl
              have hcz23_6 : wc.cell? ⟨gb161, 6, none⟩ = some (.bool a0_6) := (blk_cell BK161.out 6).trans rfl
              have hfz23_0 := blk_frozen BK161.out 0
              have hfz23_1 := blk_frozen BK161.out 1
              have hfz23_2 := blk_frozen BK161.out 2
              have hfz23_3 := blk_frozen BK161.out 3
              have hfz23_4 := blk_frozen BK161.out 4
              have hfz23_5 := blk_frozen BK161.out 5
              have hfz23_6 := blk_frozen BK161.out 6
              go_wp2
              go_meet
              case rel => exact ⟨_, (((Int.tmod a0_2 8) != 0)), (by first | rfl | (simp; done) | (simp [*]; done) | (simp; exact (IntWalk.wrap64_in _ (by decide)).symm)), H', ⟨by have := HJ1.out; first | omega | exact Nat.le_refl _⟩, ⟨by (with_reducible repeat (first | refine blk_drewN ?_ _ | refine blk_drew ?_ | refine blk_alloc ?_ _)); exact BK161.out⟩, ⟨by repeat (first | (with_reducible first | exact HB.out | apply below_alloc | apply pw_below_drewN | apply below_drew1 | refine below_set ?_ GE161.out) | exact HB.out)⟩⟩
        case rest =>
          clear HC18
          try clear c1
          try clear c2
          try clear p2
          try clear c3
          try clear c4
          try clear c4b0
          try clear c6
          try clear c6b0
          try clear c8
          try clear c8b0
          try clear c8b1
          try clear c9
          try clear c12
          try clear c12b0
          try clear c12b1
          try clear c13
          try clear c17
          try clear c19
          try clear c19b0
          try clear c21
          try clear c21b0
          try clear hcz10_0
          try clear hcz10_1
          try clear hcz10_2
          try clear hcz10_3
          try clear hcz10_4
          try clear hcz10_5
          try clear hcz10_6
          try clear hcz11_0
          try clear hcz11_1
          try clear hcz11_2
          try clear hcz11_3
          try clear hcz11_4
          try clear hcz11_5
          try clear hcz11_6
          try clear hcz14_0
          try clear hcz14_1
          try clear hcz14_2
          try clear hcz14_3
          try clear hcz14_4
          try clear hcz14_5
          try clear hcz14_6
          try clear hcz15_0
          try clear hcz15_1
          try clear hcz15_2
          try clear hcz15_3
          try clear hcz15_4
          try clear hcz15_5
          try clear hcz15_6
          try clear hcz16_0
          try clear hcz16_1
          try clear hcz16_2
          try clear hcz16_3
          try clear hcz16_4
          try clear hcz16_5
          try clear hcz16_6
          try clear hcz20_0
          try clear hcz20_1
          try clear hcz20_2
          try clear hcz20_3
          try clear hcz20_4
          try clear hcz20_5
          try clear hcz20_6
          try clear hcz22_0
          try clear hcz22_1
          try clear hcz22_2
          try clear hcz22_3
          try clear hcz22_4
          try clear hcz22_5
          try clear hcz22_6
          try clear hcz23_0
          try clear hcz23_1
          try clear hcz23_2
          try clear hcz23_3
          try clear hcz23_4
          try clear hcz23_5
          try clear hcz23_6
          try clear hcz5_0
          try clear hcz5_1
          try clear hcz5_2
          try clear hcz5_3
          try clear hcz5_4
          try clear hcz5_5
          try clear hcz5_6
          try clear hcz7_0
          try clear hcz7_1
          try clear hcz7_2
          try clear hcz7_3
          try clear hcz7_4
          try clear hcz7_5
          try clear hcz7_6
          try clear hfz10_0
          try clear hfz10_1
          try clear hfz10_2
          try clear hfz10_3
          try clear hfz10_4
          try clear hfz10_5
          try clear hfz10_6
          try clear hfz11_0
          try clear hfz11_1
          try clear hfz11_2
          try clear hfz11_3
          try clear hfz11_4
          try clear hfz11_5
          try clear hfz11_6
          try clear hfz14_0
          try clear hfz14_1
          try clear hfz14_2
          try clear hfz14_3
          try clear hfz14_4
          try clear hfz14_5
          try clear hfz14_6
          try clear hfz15_0
          try clear hfz15_1
          try clear hfz15_2
          try clear hfz15_3
          try clear hfz15_4
          try clear hfz15_5
          try clear hfz15_6
          try clear hfz16_0
          try clear hfz16_1
          try clear hfz16_2
          try clear hfz16_3
          try clear hfz16_4
          try clear hfz16_5
          try clear hfz16_6
          try clear hfz20_0
          try clear hfz20_1
          try clear hfz20_2
          try clear hfz20_3
          try clear hfz20_4
          try clear hfz20_5
          try clear hfz20_6
          try clear hfz22_0
          try clear hfz22_1
          try clear hfz22_2
          try clear hfz22_3
          try clear hfz22_4
          try clear hfz22_5
          try clear hfz22_6
          try clear hfz23_0
          try clear hfz23_1
          try clear hfz23_2
          try clear hfz23_3
          try clear hfz23_4
          try clear hfz23_5
          try clear hfz23_6
          try clear hfz5_0
          try clear hfz5_1
          try clear hfz5_2
          try clear hfz5_3
          try clear hfz5_4
          try clear hfz5_5
          try clear hfz5_6
          try clear hfz7_0
          try clear hfz7_1
          try clear hfz7_2
          try clear hfz7_3
          try clear hfz7_4
          try clear hfz7_5
          try clear hfz7_6
          try clear p2
          obtain ⟨kq, x42_17, rfl, HA, HJ17, BK161, HB⟩ := hcut
          cases kq with
          | zero => exact absurd HA.out (by simp [crierref20_May.j1])
          | succ kj17 =>
            have H := HA.out
            clear HA
            simp only [crierref20_May.j1] at H
            by_cases c24 : x42_17 = true
            · subst c24
              have H1 : (some false) = some r := by first | (rw [if_pos rfl] at H; exact H) | (rw [if_pos trivial] at H; exact H)
              clear H
              have H := H1
              clear H1
              obtain rfl := Option.some.inj H
              go_wp2
              go_ret
              exact ⟨by first | rfl | (simp [errW_none, errW_some] <;> rfl) | (simp [*, errW_none, errW_some] <;> rfl), by repeat (first | (with_reducible first | exact HB.out | apply below_alloc | apply pw_below_drewN | apply below_drew1 | refine below_set ?_ GE161.out) | exact HB.out)⟩
            · replace c24 := Bool.eq_false_iff.mpr c24
              subst c24
              have H1 : (if a0_5 < 0 then (crierref20_May.j2 kj17 true a0_0 a0_1 a0_2 a0_3 a0_4 a0_5 a0_6) else (if a0_5 > 1023 then (crierref20_May.j2 kj17 true a0_0 a0_1 a0_2 a0_3 a0_4 a0_5 a0_6) else (if a0_4 = true then (crierref20_May.j2 kj17 false a0_0 a0_1 a0_2 a0_3 a0_4 a0_5 a0_6) else (crierref20_May.j2 kj17 (a0_5 != 0) a0_0 a0_1 a0_2 a0_3 a0_4 a0_5 a0_6)))) = some r := by rw [if_neg (show ¬ (false = true) by decide)] at H; exact H
              clear H
              have H := H1
              clear H1
              have HC25 := Aside0.mk H
              clear H
              go_upto_region 5 with (fail)
              go_cut [60] (fun v60 wc => ∃ (kq : Nat) (x60_24 : Bool), v60 = .bool x60_24 ∧ Aside0 (crierref20_May.j2 kq x60_24 a0_0 a0_1 a0_2 a0_3 a0_4 a0_5 a0_6 = some r) ∧ Aside0 (kq ≤ kj17) ∧ Aside0 (wc.heap[gb161]? = some (.cells #[.int .i64 a0_0, .int .i64 a0_1, .int .i64 a0_2, .int .i64 a0_3, .bool a0_4, .int .i64 a0_5, .bool a0_6] 24 (0, 0))) ∧ Aside0 (Below w.heap.size w wc))
              case first =>
                have H := HC25.out
                clear HC25
                by_cases c26 : a0_5 < 0
                · rw [if_pos c26] at H
                  have c26b0 : decide (a0_5 < 0) = true := decide_eq_true c26
                  clear c26
                  (first | rw [c26b0] | (simp only [i64_w, i32_w]; rw [c26b0]) | skip)
                  have H' := Aside0.mk H
                  clear H
                  have hcz27_0 : wc.cell? ⟨gb161, 0, none⟩ = some (.int .i64 a0_0) := (blk_cell BK161.out 0).trans rfl
                  have hcz27_1 : wc.cell? ⟨gb161, 1, none⟩ = some (.int .i64 a0_1) := (blk_cell BK161.out 1).trans rfl
                  have hcz27_2 : wc.cell? ⟨gb161, 2, none⟩ = some (.int .i64 a0_2) := (blk_cell BK161.out 2).trans rfl
                  have hcz27_3 : wc.cell? ⟨gb161, 3, none⟩ = some (.int .i64 a0_3) := (blk_cell BK161.out 3).trans rfl
                  have hcz27_4 : wc.cell? ⟨gb161, 4, none⟩ = some (.bool a0_4) := (blk_cell BK161.out 4).trans rfl
                  have hcz27_5 : wc.cell? ⟨gb161, 5, none⟩ = some (.int .i64 a0_5) := (blk_cell BK161.out 5).trans rfl
                  have hcz27_6 : wc.cell? ⟨gb161, 6, none⟩ = some (.bool a0_6) := (blk_cell BK161.out 6).trans rfl
                  have hfz27_0 := blk_frozen BK161.out 0
                  have hfz27_1 := blk_frozen BK161.out 1
                  have hfz27_2 := blk_frozen BK161.out 2
                  have hfz27_3 := blk_frozen BK161.out 3
                  have hfz27_4 := blk_frozen BK161.out 4
                  have hfz27_5 := blk_frozen BK161.out 5
                  have hfz27_6 := blk_frozen BK161.out 6
                  go_wp2
                  go_meet
                  case rel => exact ⟨_, (true), (by first | rfl | (simp; done) | (simp [*]; done) | (simp; exact (IntWalk.wrap64_in _ (by decide)).symm)), H', ⟨by have := HJ1.out; have := HJ17.out; first | omega | exact Nat.le_refl _⟩, ⟨by (with_reducible repeat (first | refine blk_drewN ?_ _ | refine blk_drew ?_ | refine blk_alloc ?_ _)); exact BK161.out⟩, ⟨by repeat (first | (with_reducible first | exact HB.out | apply below_alloc | apply pw_below_drewN | apply below_drew1 | refine below_set ?_ GE161.out) | exact HB.out)⟩⟩
                · rw [if_neg c26] at H
                  have c26b0 : decide (a0_5 < 0) = false := decide_eq_false c26
                  clear c26
                  (first | rw [c26b0] | (simp only [i64_w, i32_w]; rw [c26b0]) | skip)
                  by_cases c28 : a0_5 > 1023
                  · rw [if_pos c28] at H
                    have c28b0 : decide (1023 < a0_5) = true := decide_eq_true c28
                    clear c28
                    have H' := Aside0.mk H
                    clear H
                    have hcz29_0 : wc.cell? ⟨gb161, 0, none⟩ = some (.int .i64 a0_0) := (blk_cell BK161.out 0).trans rfl
                    have hcz29_1 : wc.cell? ⟨gb161, 1, none⟩ = some (.int .i64 a0_1) := (blk_cell BK161.out 1).trans rfl
                    have hcz29_2 : wc.cell? ⟨gb161, 2, none⟩ = some (.int .i64 a0_2) := (blk_cell BK161.out 2).trans rfl
                    have hcz29_3 : wc.cell? ⟨gb161, 3, none⟩ = some (.int .i64 a0_3) := (blk_cell BK161.out 3).trans rfl
                    have hcz29_4 : wc.cell? ⟨gb161, 4, none⟩ = some (.bool a0_4) := (blk_cell BK161.out 4).trans rfl
                    have hcz29_5 : wc.cell? ⟨gb161, 5, none⟩ = some (.int .i64 a0_5) := (blk_cell BK161.out 5).trans rfl
                    have hcz29_6 : wc.cell? ⟨gb161, 6, none⟩ = some (.bool a0_6) := (blk_cell BK161.out 6).trans rfl
                    have hfz29_0 := blk_frozen BK161.out 0
                    have hfz29_1 := blk_frozen BK161.out 1
                    have hfz29_2 := blk_frozen BK161.out 2
                    have hfz29_3 := blk_frozen BK161.out 3
                    have hfz29_4 := blk_frozen BK161.out 4
                    have hfz29_5 := blk_frozen BK161.out 5
                    have hfz29_6 := blk_frozen BK161.out 6
                    go_wp2
                    go_meet
                    case rel => exact ⟨_, (true), (by first | rfl | (simp; done) | (simp [*]; done) | (simp; exact (IntWalk.wrap64_in _ (by decide)).symm)), H', ⟨by have := HJ1.out; have := HJ17.out; first | omega | exact Nat.le_refl _⟩, ⟨by (with_reducible repeat (first | refine blk_drewN ?_ _ | refine blk_drew ?_ | refine blk_alloc ?_ _)); exact BK161.out⟩, ⟨by repeat (first | (with_reducible first | exact HB.out | apply below_alloc | apply pw_below_drewN | apply below_drew1 | refine below_set ?_ GE161.out) | exact HB.out)⟩⟩
                  · rw [if_neg c28] at H
                    have c28b0 : decide (1023 < a0_5) = false := decide_eq_false c28
                    clear c28
                    by_cases c30 : a0_4 = true
                    · subst c30
                      have H1 : (crierref20_May.j2 kj17 false a0_0 a0_1 a0_2 a0_3 true a0_5 a0_6) = some r := by first | (rw [if_pos rfl] at H; exact H) | (rw [if_pos trivial] at H; exact H)
                      clear H
                      have H := H1
                      clear H1
                      have H' := Aside0.mk H
                      clear H
                      have hcz31_0 : wc.cell? ⟨gb161, 0, none⟩ = some (.int .i64 a0_0) := (blk_cell BK161.out 0).trans rfl
                      have hcz31_1 : wc.cell? ⟨gb161, 1, none⟩ = some (.int .i64 a0_1) := (blk_cell BK161.out 1).trans rfl
                      have hcz31_2 : wc.cell? ⟨gb161, 2, none⟩ = some (.int .i64 a0_2) := (blk_cell BK161.out 2).trans rfl
                      have hcz31_3 : wc.cell? ⟨gb161, 3, none⟩ = some (.int .i64 a0_3) := (blk_cell BK161.out 3).trans rfl
                      have hcz31_4 : wc.cell? ⟨gb161, 4, none⟩ = some (.bool true) := (blk_cell BK161.out 4).trans rfl
                      have hcz31_5 : wc.cell? ⟨gb161, 5, none⟩ = some (.int .i64 a0_5) := (blk_cell BK161.out 5).trans rfl
                      have hcz31_6 : wc.cell? ⟨gb161, 6, none⟩ = some (.bool a0_6) := (blk_cell BK161.out 6).trans rfl
                      have hfz31_0 := blk_frozen BK161.out 0
                      have hfz31_1 := blk_frozen BK161.out 1
                      have hfz31_2 := blk_frozen BK161.out 2
                      have hfz31_3 := blk_frozen BK161.out 3
                      have hfz31_4 := blk_frozen BK161.out 4
                      have hfz31_5 := blk_frozen BK161.out 5
                      have hfz31_6 := blk_frozen BK161.out 6
                      go_wp2
                      go_meet
                      case rel => exact ⟨_, (false), (by first | rfl | (simp; done) | (simp [*]; done) | (simp; exact (IntWalk.wrap64_in _ (by decide)).symm)), H', ⟨by have := HJ1.out; have := HJ17.out; first | omega | exact Nat.le_refl _⟩, ⟨by (with_reducible repeat (first | refine blk_drewN ?_ _ | refine blk_drew ?_ | refine blk_alloc ?_ _)); exact BK161.out⟩, ⟨by repeat (first | (with_reducible first | exact HB.out | apply below_alloc | apply pw_below_drewN | apply below_drew1 | refine below_set ?_ GE161.out) | exact HB.out)⟩⟩
                    · replace c30 := Bool.eq_false_iff.mpr c30
                      subst c30
                      have H1 : (crierref20_May.j2 kj17 (a0_5 != 0) a0_0 a0_1 a0_2 a0_3 false a0_5 a0_6) = some r := by rw [if_neg (show ¬ (false = true) by decide)] at H; exact H
                      clear H
                      have H := H1
                      clear H1
                      have H' := Aside0.mk H
                      clear H
                      have hcz32_0 : wc.cell? ⟨gb161, 0, none⟩ = some (.int .i64 a0_0) := (blk_cell BK161.out 0).trans rfl
                      have hcz32_1 : wc.cell? ⟨gb161, 1, none⟩ = some (.int .i64 a0_1) := (blk_cell BK161.out 1).trans rfl
                      have hcz32_2 : wc.cell? ⟨gb161, 2, none⟩ = some (.int .i64 a0_2) := (blk_cell BK161.out 2).trans rfl
                      have hcz32_3 : wc.cell? ⟨gb161, 3, none⟩ = some (.int .i64 a0_3) := (blk_cell BK161.out 3).trans rfl
                      have hcz32_4 : wc.cell? ⟨gb161, 4, none⟩ = some (.bool false) := (blk_cell BK161.out 4).trans rfl
                      have hcz32_5 : wc.cell? ⟨gb161, 5, none⟩ = some (.int .i64 a0_5) := (blk_cell BK161.out 5).trans rfl
                      have hcz32_6 : wc.cell? ⟨gb161, 6, none⟩ = some (.bool a0_6) := (blk_cell BK161.out 6).trans rfl
                      have hfz32_0 := blk_frozen BK161.out 0
                      have hfz32_1 := blk_frozen BK161.out 1
                      have hfz32_2 := blk_frozen BK161.out 2
                      have hfz32_3 := blk_frozen BK161.out 3
                      have hfz32_4 := blk_frozen BK161.out 4
                      have hfz32_5 := blk_frozen BK161.out 5
                      have hfz32_6 := blk_frozen BK161.out 6
                      go_wp2
                      go_meet
                      case rel => exact ⟨_, ((a0_5 != 0)), (by first | rfl | (simp; done) | (simp [*]; done) | (simp; exact (IntWalk.wrap64_in _ (by decide)).symm)), H', ⟨by have := HJ1.out; have := HJ17.out; first | omega | exact Nat.le_refl _⟩, ⟨by (with_reducible repeat (first | refine blk_drewN ?_ _ | refine blk_drew ?_ | refine blk_alloc ?_ _)); exact BK161.out⟩, ⟨by repeat (first | (with_reducible first | exact HB.out | apply below_alloc | apply pw_below_drewN | apply below_drew1 | refine below_set ?_ GE161.out) | exact HB.out)⟩⟩
              case rest =>
                clear HC25
                try clear c1
                try clear c2
                try clear p2
                try clear c3
                try clear c4
                try clear c4b0
                try clear c6
                try clear c6b0
                try clear c8
                try clear c8b0
                try clear c8b1
                try clear c9
                try clear c12
                try clear c12b0
                try clear c12b1
                try clear c13
                try clear c17
                try clear c19
                try clear c19b0
                try clear c21
                try clear c21b0
                try clear c24
                try clear c26
                try clear c26b0
                try clear c28
                try clear c28b0
                try clear c30
                try clear hcz10_0
                try clear hcz10_1
                try clear hcz10_2
                try clear hcz10_3
                try clear hcz10_4
                try clear hcz10_5
                try clear hcz10_6
                try clear hcz11_0
                try clear hcz11_1
                try clear hcz11_2
                try clear hcz11_3
                try clear hcz11_4
                try clear hcz11_5
                try clear hcz11_6
                try clear hcz14_0
                try clear hcz14_1
                try clear hcz14_2
                try clear hcz14_3
                try clear hcz14_4
                try clear hcz14_5
                try clear hcz14_6
                try clear hcz15_0
                try clear hcz15_1
                try clear hcz15_2
                try clear hcz15_3
                try clear hcz15_4
                try clear hcz15_5
                try clear hcz15_6
                try clear hcz16_0
                try clear hcz16_1
                try clear hcz16_2
                try clear hcz16_3
                try clear hcz16_4
                try clear hcz16_5
                try clear hcz16_6
                try clear hcz20_0
                try clear hcz20_1
                try clear hcz20_2
                try clear hcz20_3
                try clear hcz20_4
                try clear hcz20_5
                try clear hcz20_6
                try clear hcz22_0
                try clear hcz22_1
                try clear hcz22_2
                try clear hcz22_3
                try clear hcz22_4
                try clear hcz22_5
                try clear hcz22_6
                try clear hcz23_0
                try clear hcz23_1
                try clear hcz23_2
                try clear hcz23_3
                try clear hcz23_4
                try clear hcz23_5
                try clear hcz23_6
                try clear hcz27_0
                try clear hcz27_1
                try clear hcz27_2
                try clear hcz27_3
                try clear hcz27_4
                try clear hcz27_5
                try clear hcz27_6
                try clear hcz29_0
                try clear hcz29_1
                try clear hcz29_2
                try clear hcz29_3
                try clear hcz29_4
                try clear hcz29_5
                try clear hcz29_6
                try clear hcz31_0
                try clear hcz31_1
                try clear hcz31_2
                try clear hcz31_3
                try clear hcz31_4
                try clear hcz31_5
                try clear hcz31_6
                try clear hcz32_0
                try clear hcz32_1
                try clear hcz32_2
                try clear hcz32_3
                try clear hcz32_4
                try clear hcz32_5
                try clear hcz32_6
                try clear hcz5_0
                try clear hcz5_1
                try clear hcz5_2
                try clear hcz5_3
                try clear hcz5_4
                try clear hcz5_5
                try clear hcz5_6
                try clear hcz7_0
                try clear hcz7_1
                try clear hcz7_2
                try clear hcz7_3
                try clear hcz7_4
                try clear hcz7_5
                try clear hcz7_6
                try clear hfz10_0
                try clear hfz10_1
                try clear hfz10_2
                try clear hfz10_3
                try clear hfz10_4
                try clear hfz10_5
                try clear hfz10_6
                try clear hfz11_0
                try clear hfz11_1
                try clear hfz11_2
                try clear hfz11_3
                try clear hfz11_4
                try clear hfz11_5
                try clear hfz11_6
                try clear hfz14_0
                try clear hfz14_1
                try clear hfz14_2
                try clear hfz14_3
                try clear hfz14_4
                try clear hfz14_5
                try clear hfz14_6
                try clear hfz15_0
                try clear hfz15_1
                try clear hfz15_2
                try clear hfz15_3
                try clear hfz15_4
                try clear hfz15_5
                try clear hfz15_6
                try clear hfz16_0
                try clear hfz16_1
                try clear hfz16_2
                try clear hfz16_3
                try clear hfz16_4
                try clear hfz16_5
                try clear hfz16_6
                try clear hfz20_0
                try clear hfz20_1
                try clear hfz20_2
                try clear hfz20_3
                try clear hfz20_4
                try clear hfz20_5
                try clear hfz20_6
                try clear hfz22_0
                try clear hfz22_1
                try clear hfz22_2
                try clear hfz22_3
                try clear hfz22_4
                try clear hfz22_5
                try clear hfz22_6
                try clear hfz23_0
                try clear hfz23_1
                try clear hfz23_2
                try clear hfz23_3
                try clear hfz23_4
                try clear hfz23_5
                try clear hfz23_6
                try clear hfz27_0
                try clear hfz27_1
                try clear hfz27_2
                try clear hfz27_3
                try clear hfz27_4
                try clear hfz27_5
                try clear hfz27_6
                try clear hfz29_0
                try clear hfz29_1
                try clear hfz29_2
                try clear hfz29_3
                try clear hfz29_4
                try clear hfz29_5
                try clear hfz29_6
                try clear hfz31_0
                try clear hfz31_1
                try clear hfz31_2
                try clear hfz31_3
                try clear hfz31_4
                try clear hfz31_5
                try clear hfz31_6
                try clear hfz32_0
                try clear hfz32_1
                try clear hfz32_2
                try clear hfz32_3
                try clear hfz32_4
                try clear hfz32_5
                try clear hfz32_6
                try clear hfz5_0
                try clear hfz5_1
                try clear hfz5_2
                try clear hfz5_3
                try clear hfz5_4
                try clear hfz5_5
                try clear hfz5_6
                try clear hfz7_0
                try clear hfz7_1
                try clear hfz7_2
                try clear hfz7_3
                try clear hfz7_4
                try clear hfz7_5
                try clear hfz7_6
                try clear p2
                obtain ⟨kq, x60_24, rfl, HA, HJ24, BK161, HB⟩ := hcut
                cases kq with
                | zero => exact absurd HA.out (by simp [crierref20_May.j2])
                | succ kj24 =>
                  have H := HA.out
                  clear HA
                  simp only [crierref20_May.j2] at H
                  by_cases c33 : x60_24 = true
                  · subst c33
                    have H1 : (some false) = some r := by first | (rw [if_pos rfl] at H; exact H) | (rw [if_pos trivial] at H; exact H)
                    clear H
                    have H := H1
                    clear H1
                    obtain rfl := Option.some.inj H
                    go_wp2
                    go_ret
                    exact ⟨by first | rfl | (simp [errW_none, errW_some] <;> rfl) | (simp [*, errW_none, errW_some] <;> rfl), by repeat (first | (with_reducible first | exact HB.out | apply below_alloc | apply pw_below_drewN | apply below_drew1 | refine below_set ?_ GE161.out) | exact HB.out)⟩
                  · replace c33 := Bool.eq_false_iff.mpr c33
                    subst c33
                    have H1 : (if a0_1 ≥ 0 then (if a0_1 ≤ 1019 then (some true) else (if a0_1 ≥ 8192 then (if a0_1 ≤ 16383 then (if a0_0 ≤ 1 then (some (!a0_4)) else (some false)) else (some false)) else (some false))) else (if a0_1 ≥ 8192 then (if a0_1 ≤ 16383 then (if a0_0 ≤ 1 then (some (!a0_4)) else (some false)) else (some false)) else (some false))) = some r := by rw [if_neg (show ¬ (false = true) by decide)] at H; exact H
                    clear H
                    have H := H1
                    clear H1
                    by_cases c34 : a0_1 ≥ 0
                    · rw [if_pos c34] at H
                      have c34b0 : decide (0 ≤ a0_1) = true := decide_eq_true c34
                      clear c34
                      by_cases c35 : a0_1 ≤ 1019
                      · rw [if_pos c35] at H
                        have c35b0 : decide (a0_1 ≤ 1019) = true := decide_eq_true c35
                        clear c35
                        obtain rfl := Option.some.inj H
                        have hcz36_0 : wc.cell? ⟨gb161, 0, none⟩ = some (.int .i64 a0_0) := (blk_cell BK161.out 0).trans rfl
                        have hcz36_1 : wc.cell? ⟨gb161, 1, none⟩ = some (.int .i64 a0_1) := (blk_cell BK161.out 1).trans rfl
                        have hcz36_2 : wc.cell? ⟨gb161, 2, none⟩ = some (.int .i64 a0_2) := (blk_cell BK161.out 2).trans rfl
                        have hcz36_3 : wc.cell? ⟨gb161, 3, none⟩ = some (.int .i64 a0_3) := (blk_cell BK161.out 3).trans rfl
                        have hcz36_4 : wc.cell? ⟨gb161, 4, none⟩ = some (.bool a0_4) := (blk_cell BK161.out 4).trans rfl
                        have hcz36_5 : wc.cell? ⟨gb161, 5, none⟩ = some (.int .i64 a0_5) := (blk_cell BK161.out 5).trans rfl
                        have hcz36_6 : wc.cell? ⟨gb161, 6, none⟩ = some (.bool a0_6) := (blk_cell BK161.out 6).trans rfl
                        have hfz36_0 := blk_frozen BK161.out 0
                        have hfz36_1 := blk_frozen BK161.out 1
                        have hfz36_2 := blk_frozen BK161.out 2
                        have hfz36_3 := blk_frozen BK161.out 3
                        have hfz36_4 := blk_frozen BK161.out 4
                        have hfz36_5 := blk_frozen BK161.out 5
                        have hfz36_6 := blk_frozen BK161.out 6
                        go_wp2
                        go_ret
                        exact ⟨by first | rfl | (simp [errW_none, errW_some] <;> rfl) | (simp [*, errW_none, errW_some] <;> rfl), by repeat (first | (with_reducible first | exact HB.out | apply below_alloc | apply pw_below_drewN | apply below_drew1 | refine below_set ?_ GE161.out) | exact HB.out)⟩
                      · rw [if_neg c35] at H
                        have c35b0 : decide (a0_1 ≤ 1019) = false := decide_eq_false c35
                        clear c35
                        by_cases c37 : a0_1 ≥ 8192
                        · rw [if_pos c37] at H
                          have c37b0 : decide (8192 ≤ a0_1) = true := decide_eq_true c37
                          clear c37
                          by_cases c38 : a0_1 ≤ 16383
                          · rw [if_pos c38] at H
                            have c38b0 : decide (a0_1 ≤ 16383) = true := decide_eq_true c38
                            clear c38
                            by_cases c39 : a0_0 ≤ 1
                            · rw [if_pos c39] at H
                              have c39b0 : decide (a0_0 ≤ 1) = true := decide_eq_true c39
                              clear c39
                              obtain rfl := Option.some.inj H
                              have hcz40_0 : wc.cell? ⟨gb161, 0, none⟩ = some (.int .i64 a0_0) := (blk_cell BK161.out 0).trans rfl
                              have hcz40_1 : wc.cell? ⟨gb161, 1, none⟩ = some (.int .i64 a0_1) := (blk_cell BK161.out 1).trans rfl
                              have hcz40_2 : wc.cell? ⟨gb161, 2, none⟩ = some (.int .i64 a0_2) := (blk_cell BK161.out 2).trans rfl
                              have hcz40_3 : wc.cell? ⟨gb161, 3, none⟩ = some (.int .i64 a0_3) := (blk_cell BK161.out 3).trans rfl
                              have hcz40_4 : wc.cell? ⟨gb161, 4, none⟩ = some (.bool a0_4) := (blk_cell BK161.out 4).trans rfl
                              have hcz40_5 : wc.cell? ⟨gb161, 5, none⟩ = some (.int .i64 a0_5) := (blk_cell BK161.out 5).trans rfl
                              have hcz40_6 : wc.cell? ⟨gb161, 6, none⟩ = some (.bool a0_6) := (blk_cell BK161.out 6).trans rfl
                              have hfz40_0 := blk_frozen BK161.out 0
                              have hfz40_1 := blk_frozen BK161.out 1
                              have hfz40_2 := blk_frozen BK161.out 2
                              have hfz40_3 := blk_frozen BK161.out 3
                              have hfz40_4 := blk_frozen BK161.out 4
                              have hfz40_5 := blk_frozen BK161.out 5
                              have hfz40_6 := blk_frozen BK161.out 6
                              go_wp2
                              go_ret
                              exact ⟨by first | rfl | (simp [errW_none, errW_some] <;> rfl) | (simp [*, errW_none, errW_some] <;> rfl), by repeat (first | (with_reducible first | exact HB.out | apply below_alloc | apply pw_below_drewN | apply below_drew1 | refine below_set ?_ GE161.out) | exact HB.out)⟩
                            · rw [if_neg c39] at H
                              have c39b0 : decide (a0_0 ≤ 1) = false := decide_eq_false c39
                              clear c39
                              obtain rfl := Option.some.inj H
                              have hcz41_0 : wc.cell? ⟨gb161, 0, none⟩ = some (.int .i64 a0_0) := (blk_cell BK161.out 0).trans rfl
                              have hcz41_1 : wc.cell? ⟨gb161, 1, none⟩ = some (.int .i64 a0_1) := (blk_cell BK161.out 1).trans rfl
                              have hcz41_2 : wc.cell? ⟨gb161, 2, none⟩ = some (.int .i64 a0_2) := (blk_cell BK161.out 2).trans rfl
                              have hcz41_3 : wc.cell? ⟨gb161, 3, none⟩ = some (.int .i64 a0_3) := (blk_cell BK161.out 3).trans rfl
                              have hcz41_4 : wc.cell? ⟨gb161, 4, none⟩ = some (.bool a0_4) := (blk_cell BK161.out 4).trans rfl
                              have hcz41_5 : wc.cell? ⟨gb161, 5, none⟩ = some (.int .i64 a0_5) := (blk_cell BK161.out 5).trans rfl
                              have hcz41_6 : wc.cell? ⟨gb161, 6, none⟩ = some (.bool a0_6) := (blk_cell BK161.out 6).trans rfl
                              have hfz41_0 := blk_frozen BK161.out 0
                              have hfz41_1 := blk_frozen BK161.out 1
                              have hfz41_2 := blk_frozen BK161.out 2
                              have hfz41_3 := blk_frozen BK161.out 3
                              have hfz41_4 := blk_frozen BK161.out 4
                              have hfz41_5 := blk_frozen BK161.out 5
                              have hfz41_6 := blk_frozen BK161.out 6
                              go_wp2
                              go_ret
                              exact ⟨by first | rfl | (simp [errW_none, errW_some] <;> rfl) | (simp [*, errW_none, errW_some] <;> rfl), by repeat (first | (with_reducible first | exact HB.out | apply below_alloc | apply pw_below_drewN | apply below_drew1 | refine below_set ?_ GE161.out) | exact HB.out)⟩
                          · rw [if_neg c38] at H
                            have c38b0 : decide (a0_1 ≤ 16383) = false := decide_eq_false c38
                            clear c38
                            obtain rfl := Option.some.inj H
                            have hcz42_0 : wc.cell? ⟨gb161, 0, none⟩ = some (.int .i64 a0_0) := (blk_cell BK161.out 0).trans rfl
                            have hcz42_1 : wc.cell? ⟨gb161, 1, none⟩ = some (.int .i64 a0_1) := (blk_cell BK161.out 1).trans rfl
                            have hcz42_2 : wc.cell? ⟨gb161, 2, none⟩ = some (.int .i64 a0_2) := (blk_cell BK161.out 2).trans rfl
                            have hcz42_3 : wc.cell? ⟨gb161, 3, none⟩ = some (.int .i64 a0_3) := (blk_cell BK161.out 3).trans rfl
                            have hcz42_4 : wc.cell? ⟨gb161, 4, none⟩ = some (.bool a0_4) := (blk_cell BK161.out 4).trans rfl
                            have hcz42_5 : wc.cell? ⟨gb161, 5, none⟩ = some (.int .i64 a0_5) := (blk_cell BK161.out 5).trans rfl
                            have hcz42_6 : wc.cell? ⟨gb161, 6, none⟩ = some (.bool a0_6) := (blk_cell BK161.out 6).trans rfl
                            have hfz42_0 := blk_frozen BK161.out 0
                            have hfz42_1 := blk_frozen BK161.out 1
                            have hfz42_2 := blk_frozen BK161.out 2
                            have hfz42_3 := blk_frozen BK161.out 3
                            have hfz42_4 := blk_frozen BK161.out 4
                            have hfz42_5 := blk_frozen BK161.out 5
                            have hfz42_6 := blk_frozen BK161.out 6
                            go_wp2
                            go_ret
                            exact ⟨by first | rfl | (simp [errW_none, errW_some] <;> rfl) | (simp [*, errW_none, errW_some] <;> rfl), by repeat (first | (with_reducible first | exact HB.out | apply below_alloc | apply pw_below_drewN | apply below_drew1 | refine below_set ?_ GE161.out) | exact HB.out)⟩
                        · rw [if_neg c37] at H
                          have c37b0 : decide (8192 ≤ a0_1) = false := decide_eq_false c37
                          clear c37
                          obtain rfl := Option.some.inj H
                          have hcz43_0 : wc.cell? ⟨gb161, 0, none⟩ = some (.int .i64 a0_0) := (blk_cell BK161.out 0).trans rfl
                          have hcz43_1 : wc.cell? ⟨gb161, 1, none⟩ = some (.int .i64 a0_1) := (blk_cell BK161.out 1).trans rfl
                          have hcz43_2 : wc.cell? ⟨gb161, 2, none⟩ = some (.int .i64 a0_2) := (blk_cell BK161.out 2).trans rfl
                          have hcz43_3 : wc.cell? ⟨gb161, 3, none⟩ = some (.int .i64 a0_3) := (blk_cell BK161.out 3).trans rfl
                          have hcz43_4 : wc.cell? ⟨gb161, 4, none⟩ = some (.bool a0_4) := (blk_cell BK161.out 4).trans rfl
                          have hcz43_5 : wc.cell? ⟨gb161, 5, none⟩ = some (.int .i64 a0_5) := (blk_cell BK161.out 5).trans rfl
                          have hcz43_6 : wc.cell? ⟨gb161, 6, none⟩ = some (.bool a0_6) := (blk_cell BK161.out 6).trans rfl
                          have hfz43_0 := blk_frozen BK161.out 0
                          have hfz43_1 := blk_frozen BK161.out 1
                          have hfz43_2 := blk_frozen BK161.out 2
                          have hfz43_3 := blk_frozen BK161.out 3
                          have hfz43_4 := blk_frozen BK161.out 4
                          have hfz43_5 := blk_frozen BK161.out 5
                          have hfz43_6 := blk_frozen BK161.out 6
                          go_wp2
                          go_ret
                          exact ⟨by first | rfl | (simp [errW_none, errW_some] <;> rfl) | (simp [*, errW_none, errW_some] <;> rfl), by repeat (first | (with_reducible first | exact HB.out | apply below_alloc | apply pw_below_drewN | apply below_drew1 | refine below_set ?_ GE161.out) | exact HB.out)⟩
                    · rw [if_neg c34] at H
                      have c34b0 : decide (0 ≤ a0_1) = false := decide_eq_false c34
                      clear c34
                      by_cases c44 : a0_1 ≥ 8192
                      · rw [if_pos c44] at H
                        have c44b0 : decide (8192 ≤ a0_1) = true := decide_eq_true c44
                        clear c44
                        by_cases c45 : a0_1 ≤ 16383
                        · rw [if_pos c45] at H
                          have c45b0 : decide (a0_1 ≤ 16383) = true := decide_eq_true c45
                          clear c45
                          by_cases c46 : a0_0 ≤ 1
                          · rw [if_pos c46] at H
                            have c46b0 : decide (a0_0 ≤ 1) = true := decide_eq_true c46
                            clear c46
                            obtain rfl := Option.some.inj H
                            have hcz47_0 : wc.cell? ⟨gb161, 0, none⟩ = some (.int .i64 a0_0) := (blk_cell BK161.out 0).trans rfl
                            have hcz47_1 : wc.cell? ⟨gb161, 1, none⟩ = some (.int .i64 a0_1) := (blk_cell BK161.out 1).trans rfl
                            have hcz47_2 : wc.cell? ⟨gb161, 2, none⟩ = some (.int .i64 a0_2) := (blk_cell BK161.out 2).trans rfl
                            have hcz47_3 : wc.cell? ⟨gb161, 3, none⟩ = some (.int .i64 a0_3) := (blk_cell BK161.out 3).trans rfl
                            have hcz47_4 : wc.cell? ⟨gb161, 4, none⟩ = some (.bool a0_4) := (blk_cell BK161.out 4).trans rfl
                            have hcz47_5 : wc.cell? ⟨gb161, 5, none⟩ = some (.int .i64 a0_5) := (blk_cell BK161.out 5).trans rfl
                            have hcz47_6 : wc.cell? ⟨gb161, 6, none⟩ = some (.bool a0_6) := (blk_cell BK161.out 6).trans rfl
                            have hfz47_0 := blk_frozen BK161.out 0
                            have hfz47_1 := blk_frozen BK161.out 1
                            have hfz47_2 := blk_frozen BK161.out 2
                            have hfz47_3 := blk_frozen BK161.out 3
                            have hfz47_4 := blk_frozen BK161.out 4
                            have hfz47_5 := blk_frozen BK161.out 5
                            have hfz47_6 := blk_frozen BK161.out 6
                            go_wp2
                            go_ret
                            exact ⟨by first | rfl | (simp [errW_none, errW_some] <;> rfl) | (simp [*, errW_none, errW_some] <;> rfl), by repeat (first | (with_reducible first | exact HB.out | apply below_alloc | apply pw_below_drewN | apply below_drew1 | refine below_set ?_ GE161.out) | exact HB.out)⟩
                          · rw [if_neg c46] at H
                            have c46b0 : decide (a0_0 ≤ 1) = false := decide_eq_false c46
                            clear c46
                            obtain rfl := Option.some.inj H
                            have hcz48_0 : wc.cell? ⟨gb161, 0, none⟩ = some (.int .i64 a0_0) := (blk_cell BK161.out 0).trans rfl
                            have hcz48_1 : wc.cell? ⟨gb161, 1, none⟩ = some (.int .i64 a0_1) := (blk_cell BK161.out 1).trans rfl
                            have hcz48_2 : wc.cell? ⟨gb161, 2, none⟩ = some (.int .i64 a0_2) := (blk_cell BK161.out 2).trans rfl
                            have hcz48_3 : wc.cell? ⟨gb161, 3, none⟩ = some (.int .i64 a0_3) := (blk_cell BK161.out 3).trans rfl
                            have hcz48_4 : wc.cell? ⟨gb161, 4, none⟩ = some (.bool a0_4) := (blk_cell BK161.out 4).trans rfl
                            have hcz48_5 : wc.cell? ⟨gb161, 5, none⟩ = some (.int .i64 a0_5) := (blk_cell BK161.out 5).trans rfl
                            have hcz48_6 : wc.cell? ⟨gb161, 6, none⟩ = some (.bool a0_6) := (blk_cell BK161.out 6).trans rfl
                            have hfz48_0 := blk_frozen BK161.out 0
                            have hfz48_1 := blk_frozen BK161.out 1
                            have hfz48_2 := blk_frozen BK161.out 2
                            have hfz48_3 := blk_frozen BK161.out 3
                            have hfz48_4 := blk_frozen BK161.out 4
                            have hfz48_5 := blk_frozen BK161.out 5
                            have hfz48_6 := blk_frozen BK161.out 6
                            go_wp2
                            go_ret
                            exact ⟨by first | rfl | (simp [errW_none, errW_some] <;> rfl) | (simp [*, errW_none, errW_some] <;> rfl), by repeat (first | (with_reducible first | exact HB.out | apply below_alloc | apply pw_below_drewN | apply below_drew1 | refine below_set ?_ GE161.out) | exact HB.out)⟩
                        · rw [if_neg c45] at H
                          have c45b0 : decide (a0_1 ≤ 16383) = false := decide_eq_false c45
                          clear c45
                          obtain rfl := Option.some.inj H
                          have hcz49_0 : wc.cell? ⟨gb161, 0, none⟩ = some (.int .i64 a0_0) := (blk_cell BK161.out 0).trans rfl
                          have hcz49_1 : wc.cell? ⟨gb161, 1, none⟩ = some (.int .i64 a0_1) := (blk_cell BK161.out 1).trans rfl
                          have hcz49_2 : wc.cell? ⟨gb161, 2, none⟩ = some (.int .i64 a0_2) := (blk_cell BK161.out 2).trans rfl
                          have hcz49_3 : wc.cell? ⟨gb161, 3, none⟩ = some (.int .i64 a0_3) := (blk_cell BK161.out 3).trans rfl
                          have hcz49_4 : wc.cell? ⟨gb161, 4, none⟩ = some (.bool a0_4) := (blk_cell BK161.out 4).trans rfl
                          have hcz49_5 : wc.cell? ⟨gb161, 5, none⟩ = some (.int .i64 a0_5) := (blk_cell BK161.out 5).trans rfl
                          have hcz49_6 : wc.cell? ⟨gb161, 6, none⟩ = some (.bool a0_6) := (blk_cell BK161.out 6).trans rfl
                          have hfz49_0 := blk_frozen BK161.out 0
                          have hfz49_1 := blk_frozen BK161.out 1
                          have hfz49_2 := blk_frozen BK161.out 2
                          have hfz49_3 := blk_frozen BK161.out 3
                          have hfz49_4 := blk_frozen BK161.out 4
                          have hfz49_5 := blk_frozen BK161.out 5
                          have hfz49_6 := blk_frozen BK161.out 6
                          go_wp2
                          go_ret
                          exact ⟨by first | rfl | (simp [errW_none, errW_some] <;> rfl) | (simp [*, errW_none, errW_some] <;> rfl), by repeat (first | (with_reducible first | exact HB.out | apply below_alloc | apply pw_below_drewN | apply below_drew1 | refine below_set ?_ GE161.out) | exact HB.out)⟩
                      · rw [if_neg c44] at H
                        have c44b0 : decide (8192 ≤ a0_1) = false := decide_eq_false c44
                        clear c44
                        obtain rfl := Option.some.inj H
                        have hcz50_0 : wc.cell? ⟨gb161, 0, none⟩ = some (.int .i64 a0_0) := (blk_cell BK161.out 0).trans rfl
                        have hcz50_1 : wc.cell? ⟨gb161, 1, none⟩ = some (.int .i64 a0_1) := (blk_cell BK161.out 1).trans rfl
                        have hcz50_2 : wc.cell? ⟨gb161, 2, none⟩ = some (.int .i64 a0_2) := (blk_cell BK161.out 2).trans rfl
                        have hcz50_3 : wc.cell? ⟨gb161, 3, none⟩ = some (.int .i64 a0_3) := (blk_cell BK161.out 3).trans rfl
                        have hcz50_4 : wc.cell? ⟨gb161, 4, none⟩ = some (.bool a0_4) := (blk_cell BK161.out 4).trans rfl
                        have hcz50_5 : wc.cell? ⟨gb161, 5, none⟩ = some (.int .i64 a0_5) := (blk_cell BK161.out 5).trans rfl
                        have hcz50_6 : wc.cell? ⟨gb161, 6, none⟩ = some (.bool a0_6) := (blk_cell BK161.out 6).trans rfl
                        have hfz50_0 := blk_frozen BK161.out 0
                        have hfz50_1 := blk_frozen BK161.out 1
                        have hfz50_2 := blk_frozen BK161.out 2
                        have hfz50_3 := blk_frozen BK161.out 3
                        have hfz50_4 := blk_frozen BK161.out 4
                        have hfz50_5 := blk_frozen BK161.out 5
                        have hfz50_6 := blk_frozen BK161.out 6
                        go_wp2
                        go_ret
                        exact ⟨by first | rfl | (simp [errW_none, errW_some] <;> rfl) | (simp [*, errW_none, errW_some] <;> rfl), by repeat (first | (with_reducible first | exact HB.out | apply below_alloc | apply pw_below_drewN | apply below_drew1 | refine below_set ?_ GE161.out) | exact HB.out)⟩
end Go.Proofs.Ytbhideabefjadaa.IAll
