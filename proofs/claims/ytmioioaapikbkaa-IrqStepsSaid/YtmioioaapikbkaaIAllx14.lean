-- Written by the program wip/gen/inj.py of this repository, out of the translation, for this claim. Not trusted: Lean checks it.
import Derived.Test.YtmioioaapikbkaaIAllx0
namespace Go.Proofs.Ytmioioaapikbkaa.IAll
open Go.RowKit Go.Proofs.YtmioioaapikbkaaW.PrintWords Go.Proofs.YtmioioaapikbkaaW.PrintLast Go.Proofs.YtmioioaapikbkaaW.PrintMore
attribute [local go_sem] max2_int min2_int max_two min_two max_three min_three max_four min_four   -- for this text's walks alone
set_option linter.unusedVariables false
set_option linter.unusedSimpArgs false

/-! ### crierref07_Text: function 24 -/
mutual
def crierref07_Text.j0 : Nat → ByteArray → Bool → Bool → Bool → Bool → Option (ByteArray)
  | 0, _, _, _, _, _ => none
  | k + 1, x3, x263000, x263001, x263002, x263003 => if x263001 = true then (if x3.size + 1 ≤ 9223372036854775807 then (crierref07_Text.j1 k (x3 ++ (⟨#[104]⟩ : ByteArray)) x263000 x263001 x263002 x263003) else (none)) else (crierref07_Text.j1 k x3 x263000 x263001 x263002 x263003)
def crierref07_Text.j1 : Nat → ByteArray → Bool → Bool → Bool → Bool → Option (ByteArray)
  | 0, _, _, _, _, _ => none
  | k + 1, x3, x263000, x263001, x263002, x263003 => if x263002 = true then (if x3.size + 1 ≤ 9223372036854775807 then (if x263003 = true then (if (x3 ++ (⟨#[119]⟩ : ByteArray)).size + 1 ≤ 9223372036854775807 then (some ((x3 ++ (⟨#[119]⟩ : ByteArray)) ++ (⟨#[97]⟩ : ByteArray))) else (none)) else (some (x3 ++ (⟨#[119]⟩ : ByteArray)))) else (none)) else (if x263003 = true then (if x3.size + 1 ≤ 9223372036854775807 then (some (x3 ++ (⟨#[97]⟩ : ByteArray))) else (none)) else (some x3))
end
def crierref07_Text.f (k : Nat) (a0_0 : Bool) (a0_1 : Bool) (a0_2 : Bool) (a0_3 : Bool) : Option (ByteArray) := if a0_0 = true then (crierref07_Text.j0 k (⟨#[101]⟩ : ByteArray) a0_0 a0_1 a0_2 a0_3) else (crierref07_Text.j0 k (⟨#[108]⟩ : ByteArray) a0_0 a0_1 a0_2 a0_3)
theorem crierref07_Text.mono_l : ∀ k, (∀ y0 y1 y2 y3 y4, LeO (crierref07_Text.j0 k y0 y1 y2 y3 y4) (crierref07_Text.j0 (k + 1) y0 y1 y2 y3 y4)) ∧ (∀ y0 y1 y2 y3 y4, LeO (crierref07_Text.j1 k y0 y1 y2 y3 y4) (crierref07_Text.j1 (k + 1) y0 y1 y2 y3 y4))
  | 0 => ⟨fun _ _ _ _ _ r h => by simp [crierref07_Text.j0] at h, fun _ _ _ _ _ r h => by simp [crierref07_Text.j1] at h⟩
  | k + 1 => by
    obtain ⟨ih0, ih1⟩ := crierref07_Text.mono_l k
    refine ⟨?_, ?_⟩
    · intro y0 y1 y2 y3 y4
      unfold crierref07_Text.j0
      repeat' first
      | (with_reducible exact ih0 _ _ _ _ _)
      | (with_reducible exact ih1 _ _ _ _ _)
      | (with_reducible exact LeO.refl _)
      | (with_reducible exact LeO.none _)
      | (with_reducible refine LeO.ite ?_ ?_)
      | (with_reducible refine LeO.bind ?_ (fun _ => ?_))
      | exact ih0 _ _ _ _ _
      | exact ih1 _ _ _ _ _
      | exact LeO.none _
      | refine LeO.ite ?_ ?_
      | refine LeO.bind ?_ (fun _ => ?_)
    · intro y0 y1 y2 y3 y4
      unfold crierref07_Text.j1
      repeat' first
      | (with_reducible exact ih0 _ _ _ _ _)
      | (with_reducible exact ih1 _ _ _ _ _)
      | (with_reducible exact LeO.refl _)
      | (with_reducible exact LeO.none _)
      | (with_reducible refine LeO.ite ?_ ?_)
      | (with_reducible refine LeO.bind ?_ (fun _ => ?_))
      | exact ih0 _ _ _ _ _
      | exact ih1 _ _ _ _ _
      | exact LeO.none _
      | refine LeO.ite ?_ ?_
      | refine LeO.bind ?_ (fun _ => ?_)
theorem crierref07_Text.mono : ∀ a0 a1 a2 a3 k, LeO (crierref07_Text.f k a0 a1 a2 a3) (crierref07_Text.f (k + 1) a0 a1 a2 a3) := by
  intro a0 a1 a2 a3 k
  obtain ⟨ih0, ih1⟩ := crierref07_Text.mono_l k
  unfold crierref07_Text.f
  repeat' first
      | (with_reducible exact ih0 _ _ _ _ _)
      | (with_reducible exact ih1 _ _ _ _ _)
      | (with_reducible exact LeO.refl _)
      | (with_reducible exact LeO.none _)
      | (with_reducible refine LeO.ite ?_ ?_)
      | (with_reducible refine LeO.bind ?_ (fun _ => ?_))
      | exact ih0 _ _ _ _ _
      | exact ih1 _ _ _ _ _
      | exact LeO.none _
      | refine LeO.ite ?_ ?_
      | refine LeO.bind ?_ (fun _ => ?_)
set_option maxHeartbeats 8000000 in
set_option maxRecDepth 100000 in
theorem crierref07_Text.calls (k : Nat) (a0_0 : Bool) (a0_1 : Bool) (a0_2 : Bool) (a0_3 : Bool) (r : ByteArray) (w : World) (h : crierref07_Text.f k a0_0 a0_1 a0_2 a0_3 = some r) :
    Calls Try.prog 24 #[.agg #[.bool a0_0, .bool a0_1, .bool a0_2, .bool a0_3]] w fun e w' => e = .returned (.string r) ∧ Below w.heap.size w w' := by
  have hu23 := Try.underlying23
  have HB := Aside0.mk (Below.refl w.heap.size w)
  have H : (if a0_0 = true then (crierref07_Text.j0 k (⟨#[101]⟩ : ByteArray) a0_0 a0_1 a0_2 a0_3) else (crierref07_Text.j0 k (⟨#[108]⟩ : ByteArray) a0_0 a0_1 a0_2 a0_3)) = some r := h
  clear h
  have HC2 := Aside0.mk H
  clear H
  go_enter Try.func24, Try.ntmps24
  go_upto_if 5 with (first | ((with_reducible refine gate_dst (N := 1) rfl ?_); refine box_event ?hg (N := 1) ?hd (cs := #[.bool a0_0, .bool a0_1, .bool a0_2, .bool a0_3]) (t := 23) ?hr ?_; (case hd => rfl); (case hg => rfl); (case hr => first | (go_simp; done) | (go_simp; rfl)); intro gb262 hg w3 hbox hb; have n0_ := Aside0.mk (below_step (by repeat (first | (with_reducible first | exact HB.out | apply below_alloc | apply pw_below_drewN | apply below_drew1) | exact HB.out)) hb); have n1_ := Aside0.mk (hbox); have n2_ := Aside0.mk ((by rw [hg]; exact (below_size (by repeat (first | (with_reducible first | exact HB.out | apply below_alloc | apply pw_below_drewN | apply below_drew1) | exact HB.out))) : w.heap.size ≤ gb262)); have n3_ := Aside0.mk ((by rw [hg]; exact (below_size (by repeat (first | (with_reducible first | exact HB.out | apply below_alloc | apply pw_below_drewN | apply below_drew1) | exact HB.out))) : w.heap.size ≤ gb262)); clear HB; have HB := n0_; have BK262 := n1_; have GW262 := n2_; have GE262 := n3_; clear n0_ n1_ n2_ n3_; clear hb hbox hg; have hcz4_0 : w3.cell? ⟨gb262, 0, none⟩ = some (.bool a0_0) := (blk_cell BK262.out 0).trans rfl; have hcz4_1 : w3.cell? ⟨gb262, 1, none⟩ = some (.bool a0_1) := (blk_cell BK262.out 1).trans rfl; have hcz4_2 : w3.cell? ⟨gb262, 2, none⟩ = some (.bool a0_2) := (blk_cell BK262.out 2).trans rfl; have hcz4_3 : w3.cell? ⟨gb262, 3, none⟩ = some (.bool a0_3) := (blk_cell BK262.out 3).trans rfl; have hfz4_0 := blk_frozen BK262.out 0; have hfz4_1 := blk_frozen BK262.out 1; have hfz4_2 := blk_frozen BK262.out 2; have hfz4_3 := blk_frozen BK262.out 3))
  (try simp only [Act.put, List.setIfInBounds_toArray, List.set_cons_zero, List.set_cons_succ])
  go_cut [3] (fun v3 wc => ∃ (kq : Nat) (x3_1 : ByteArray), v3 = .string x3_1 ∧ Aside0 (crierref07_Text.j0 kq x3_1 a0_0 a0_1 a0_2 a0_3 = some r) ∧ Aside0 (kq ≤ k) ∧ Aside0 (wc.heap[gb262]? = some (.cells #[.bool a0_0, .bool a0_1, .bool a0_2, .bool a0_3] 23 (0, 0))) ∧ Aside0 (Below w.heap.size w wc))
  case first =>
    have H := HC2.out
    clear HC2
    by_cases c5 : a0_0 = true
    · subst c5
      have H1 : (crierref07_Text.j0 k (⟨#[101]⟩ : ByteArray) true a0_1 a0_2 a0_3) = some r := by first | (rw [if_pos rfl] at H; exact H) | (rw [if_pos trivial] at H; exact H)
      clear H
      have H := H1
      clear H1
      have H' := Aside0.mk H
      clear H
      go_wp2
      go_meet
      case rel => exact ⟨_, ((⟨#[101]⟩ : ByteArray)), (by first | rfl | (simp; done) | (simp [*]; done) | (simp; exact (IntWalk.wrap64_in _ (by decide)).symm)), H', ⟨by first | omega | exact Nat.le_refl _⟩, ⟨by (with_reducible repeat (first | refine blk_drewN ?_ _ | refine blk_drew ?_ | refine blk_alloc ?_ _)); exact BK262.out⟩, ⟨by repeat (first | (with_reducible first | exact HB.out | apply below_alloc | apply pw_below_drewN | apply below_drew1 | refine below_set ?_ GE262.out) | exact HB.out)⟩⟩
    · replace c5 := Bool.eq_false_iff.mpr c5
      subst c5
      have H1 : (crierref07_Text.j0 k (⟨#[108]⟩ : ByteArray) false a0_1 a0_2 a0_3) = some r := by rw [if_neg (show ¬ (false = true) by decide)] at H; exact H
      clear H
      have H := H1
      clear H1
      have H' := Aside0.mk H
      clear H
      go_wp2
      go_meet
      case rel => exact ⟨_, ((⟨#[108]⟩ : ByteArray)), (by first | rfl | (simp; done) | (simp [*]; done) | (simp; exact (IntWalk.wrap64_in _ (by decide)).symm)), H', ⟨by first | omega | exact Nat.le_refl _⟩, ⟨by (with_reducible repeat (first | refine blk_drewN ?_ _ | refine blk_drew ?_ | refine blk_alloc ?_ _)); exact BK262.out⟩, ⟨by repeat (first | (with_reducible first | exact HB.out | apply below_alloc | apply pw_below_drewN | apply below_drew1 | refine below_set ?_ GE262.out) | exact HB.out)⟩⟩
  case rest =>
    clear HC2
    try clear c2
    try clear p2
    try clear c5
    try clear hcz4_0
    try clear hcz4_1
    try clear hcz4_2
    try clear hcz4_3
    try clear hfz4_0
    try clear hfz4_1
    try clear hfz4_2
    try clear hfz4_3
    obtain ⟨kq, x3_1, rfl, HA, HJ1, BK262, HB⟩ := hcut
    cases kq with
    | zero => exact absurd HA.out (by simp [crierref07_Text.j0])
    | succ kj1 =>
      have H := HA.out
      clear HA
      simp only [crierref07_Text.j0] at H
      have HC6 := Aside0.mk H
      clear H
      have hcz7_0 : wc.cell? ⟨gb262, 0, none⟩ = some (.bool a0_0) := (blk_cell BK262.out 0).trans rfl
      have hcz7_1 : wc.cell? ⟨gb262, 1, none⟩ = some (.bool a0_1) := (blk_cell BK262.out 1).trans rfl
      have hcz7_2 : wc.cell? ⟨gb262, 2, none⟩ = some (.bool a0_2) := (blk_cell BK262.out 2).trans rfl
      have hcz7_3 : wc.cell? ⟨gb262, 3, none⟩ = some (.bool a0_3) := (blk_cell BK262.out 3).trans rfl
      have hfz7_0 := blk_frozen BK262.out 0
      have hfz7_1 := blk_frozen BK262.out 1
      have hfz7_2 := blk_frozen BK262.out 2
      have hfz7_3 := blk_frozen BK262.out 3
      go_upto_if 7 with (fail)
      go_cut [3] (fun v3 wc => ∃ (kq : Nat) (x3_5 : ByteArray), v3 = .string x3_5 ∧ Aside0 (crierref07_Text.j1 kq x3_5 a0_0 a0_1 a0_2 a0_3 = some r) ∧ Aside0 (kq ≤ kj1) ∧ Aside0 (wc.heap[gb262]? = some (.cells #[.bool a0_0, .bool a0_1, .bool a0_2, .bool a0_3] 23 (0, 0))) ∧ Aside0 (Below w.heap.size w wc))
      case first =>
        have H := HC6.out
        clear HC6
        by_cases c8 : a0_1 = true
        · subst c8
          have H1 : (if x3_1.size + 1 ≤ 9223372036854775807 then (crierref07_Text.j1 kj1 (x3_1 ++ (⟨#[104]⟩ : ByteArray)) a0_0 true a0_2 a0_3) else (none)) = some r := by first | (rw [if_pos rfl] at H; exact H) | (rw [if_pos trivial] at H; exact H)
          clear H
          have H := H1
          clear H1
          by_cases c9 : x3_1.size + 1 ≤ 9223372036854775807
          · rw [if_pos c9] at H
            have c9b0 := eq_true c9
            have c9b1 : decide (x3_1.size + 1 ≤ 9223372036854775807) = true := decide_eq_true c9
            try have c9b2 : (9223372036854775807 < x3_1.size + 1) = False := eq_false (Nat.not_lt.2 c9)
            have H' := Aside0.mk H
            clear H
            go_wp2
            go_meet
            case rel => exact ⟨_, (x3_1 ++ (⟨#[104]⟩ : ByteArray)), (by first | rfl | (simp; done) | (simp [*]; done) | (simp; exact (IntWalk.wrap64_in _ (by decide)).symm)), H', ⟨by have := HJ1.out; first | omega | exact Nat.le_refl _⟩, ⟨by (with_reducible repeat (first | refine blk_drewN ?_ _ | refine blk_drew ?_ | refine blk_alloc ?_ _)); exact BK262.out⟩, ⟨by repeat (first | (with_reducible first | exact HB.out | apply below_alloc | apply pw_below_drewN | apply below_drew1 | refine below_set ?_ GE262.out) | exact HB.out)⟩⟩
          · rw [if_neg c9] at H
            exact absurd H (by simp)
        · replace c8 := Bool.eq_false_iff.mpr c8
          subst c8
          have H1 : (crierref07_Text.j1 kj1 x3_1 a0_0 false a0_2 a0_3) = some r := by rw [if_neg (show ¬ (false = true) by decide)] at H; exact H
          clear H
          have H := H1
          clear H1
          have H' := Aside0.mk H
          clear H
          go_wp2
          go_meet
          case rel => exact ⟨_, (x3_1), (by first | rfl | (simp; done) | (simp [*]; done) | (simp; exact (IntWalk.wrap64_in _ (by decide)).symm)), H', ⟨by have := HJ1.out; first | omega | exact Nat.le_refl _⟩, ⟨by (with_reducible repeat (first | refine blk_drewN ?_ _ | refine blk_drew ?_ | refine blk_alloc ?_ _)); exact BK262.out⟩, ⟨by repeat (first | (with_reducible first | exact HB.out | apply below_alloc | apply pw_below_drewN | apply below_drew1 | refine below_set ?_ GE262.out) | exact HB.out)⟩⟩
      case rest =>
        clear HC6
        try clear c2
        try clear p2
        try clear c5
        try clear c8
        try clear c9
        try clear c9b0
        try clear c9b1
        try clear c9b2
        try clear hcz4_0
        try clear hcz4_1
        try clear hcz4_2
        try clear hcz4_3
        try clear hcz7_0
        try clear hcz7_1
        try clear hcz7_2
        try clear hcz7_3
        try clear hfz4_0
        try clear hfz4_1
        try clear hfz4_2
        try clear hfz4_3
        try clear hfz7_0
        try clear hfz7_1
        try clear hfz7_2
        try clear hfz7_3
        try clear p2
        obtain ⟨kq, x3_5, rfl, HA, HJ5, BK262, HB⟩ := hcut
        cases kq with
        | zero => exact absurd HA.out (by simp [crierref07_Text.j1])
        | succ kj5 =>
          have H := HA.out
          clear HA
          simp only [crierref07_Text.j1] at H
          by_cases c10 : a0_2 = true
          · subst c10
            have H1 : (if x3_5.size + 1 ≤ 9223372036854775807 then (if a0_3 = true then (if (x3_5 ++ (⟨#[119]⟩ : ByteArray)).size + 1 ≤ 9223372036854775807 then (some ((x3_5 ++ (⟨#[119]⟩ : ByteArray)) ++ (⟨#[97]⟩ : ByteArray))) else (none)) else (some (x3_5 ++ (⟨#[119]⟩ : ByteArray)))) else (none)) = some r := by first | (rw [if_pos rfl] at H; exact H) | (rw [if_pos trivial] at H; exact H)
            clear H
            have H := H1
            clear H1
            by_cases c11 : x3_5.size + 1 ≤ 9223372036854775807
            · rw [if_pos c11] at H
              have c11b0 := eq_true c11
              have c11b1 : decide (x3_5.size + 1 ≤ 9223372036854775807) = true := decide_eq_true c11
              try have c11b2 : (9223372036854775807 < x3_5.size + 1) = False := eq_false (Nat.not_lt.2 c11)
              by_cases c12 : a0_3 = true
              · subst c12
                have H1 : (if (x3_5 ++ (⟨#[119]⟩ : ByteArray)).size + 1 ≤ 9223372036854775807 then (some ((x3_5 ++ (⟨#[119]⟩ : ByteArray)) ++ (⟨#[97]⟩ : ByteArray))) else (none)) = some r := by first | (rw [if_pos rfl] at H; exact H) | (rw [if_pos trivial] at H; exact H)
                clear H
                have H := H1
                clear H1
                by_cases c13 : (x3_5 ++ (⟨#[119]⟩ : ByteArray)).size + 1 ≤ 9223372036854775807
                · rw [if_pos c13] at H
                  have c13b0 := eq_true c13
                  have c13b1 : decide ((x3_5 ++ (⟨#[119]⟩ : ByteArray)).size + 1 ≤ 9223372036854775807) = true := decide_eq_true c13
                  have c13b7 : (9223372036854775807 < x3_5.size + 1 + 1) = False := eq_false (by have h := c13; rw [ByteArray.size_append] at h; have e : (⟨#[119]⟩ : ByteArray).size = 1 := rfl; omega)
                  have c13b8 : (x3_5.size + 1 + 1 ≤ 9223372036854775807) = True := eq_true (by have h := c13; rw [ByteArray.size_append] at h; have e : (⟨#[119]⟩ : ByteArray).size = 1 := rfl; omega)
                  try have c13b2 : (9223372036854775807 < (x3_5 ++ (⟨#[119]⟩ : ByteArray)).size + 1) = False := eq_false (Nat.not_lt.2 c13)
                  obtain rfl := Option.some.inj H
                  have hcz14_0 : wc.cell? ⟨gb262, 0, none⟩ = some (.bool a0_0) := (blk_cell BK262.out 0).trans rfl
                  have hcz14_1 : wc.cell? ⟨gb262, 1, none⟩ = some (.bool a0_1) := (blk_cell BK262.out 1).trans rfl
                  have hcz14_2 : wc.cell? ⟨gb262, 2, none⟩ = some (.bool true) := (blk_cell BK262.out 2).trans rfl
                  have hcz14_3 : wc.cell? ⟨gb262, 3, none⟩ = some (.bool true) := (blk_cell BK262.out 3).trans rfl
                  have hfz14_0 := blk_frozen BK262.out 0
                  have hfz14_1 := blk_frozen BK262.out 1
                  have hfz14_2 := blk_frozen BK262.out 2
                  have hfz14_3 := blk_frozen BK262.out 3
                  go_wp2
                  go_ret
                  exact ⟨by first | rfl | (simp [errW_none, errW_some] <;> rfl) | (simp [*, errW_none, errW_some] <;> rfl), by repeat (first | (with_reducible first | exact HB.out | apply below_alloc | apply pw_below_drewN | apply below_drew1 | refine below_set ?_ GE262.out) | exact HB.out)⟩
                · rw [if_neg c13] at H
                  exact absurd H (by simp)
              · replace c12 := Bool.eq_false_iff.mpr c12
                subst c12
                have H1 : (some (x3_5 ++ (⟨#[119]⟩ : ByteArray))) = some r := by rw [if_neg (show ¬ (false = true) by decide)] at H; exact H
                clear H
                have H := H1
                clear H1
                obtain rfl := Option.some.inj H
                have hcz15_0 : wc.cell? ⟨gb262, 0, none⟩ = some (.bool a0_0) := (blk_cell BK262.out 0).trans rfl
                have hcz15_1 : wc.cell? ⟨gb262, 1, none⟩ = some (.bool a0_1) := (blk_cell BK262.out 1).trans rfl
                have hcz15_2 : wc.cell? ⟨gb262, 2, none⟩ = some (.bool true) := (blk_cell BK262.out 2).trans rfl
                have hcz15_3 : wc.cell? ⟨gb262, 3, none⟩ = some (.bool false) := (blk_cell BK262.out 3).trans rfl
                have hfz15_0 := blk_frozen BK262.out 0
                have hfz15_1 := blk_frozen BK262.out 1
                have hfz15_2 := blk_frozen BK262.out 2
                have hfz15_3 := blk_frozen BK262.out 3
                go_wp2
                go_ret
                exact ⟨by first | rfl | (simp [errW_none, errW_some] <;> rfl) | (simp [*, errW_none, errW_some] <;> rfl), by repeat (first | (with_reducible first | exact HB.out | apply below_alloc | apply pw_below_drewN | apply below_drew1 | refine below_set ?_ GE262.out) | exact HB.out)⟩
            · rw [if_neg c11] at H
              exact absurd H (by simp)
          · replace c10 := Bool.eq_false_iff.mpr c10
            subst c10
            have H1 : (if a0_3 = true then (if x3_5.size + 1 ≤ 9223372036854775807 then (some (x3_5 ++ (⟨#[97]⟩ : ByteArray))) else (none)) else (some x3_5)) = some r := by rw [if_neg (show ¬ (false = true) by decide)] at H; exact H
            clear H
            have H := H1
            clear H1
            by_cases c16 : a0_3 = true
            · subst c16
              have H1 : (if x3_5.size + 1 ≤ 9223372036854775807 then (some (x3_5 ++ (⟨#[97]⟩ : ByteArray))) else (none)) = some r := by first | (rw [if_pos rfl] at H; exact H) | (rw [if_pos trivial] at H; exact H)
              clear H
              have H := H1
              clear H1
              by_cases c17 : x3_5.size + 1 ≤ 9223372036854775807
              · rw [if_pos c17] at H
                have c17b0 := eq_true c17
                have c17b1 : decide (x3_5.size + 1 ≤ 9223372036854775807) = true := decide_eq_true c17
                try have c17b2 : (9223372036854775807 < x3_5.size + 1) = False := eq_false (Nat.not_lt.2 c17)
                obtain rfl := Option.some.inj H
                have hcz18_0 : wc.cell? ⟨gb262, 0, none⟩ = some (.bool a0_0) := (blk_cell BK262.out 0).trans rfl
                have hcz18_1 : wc.cell? ⟨gb262, 1, none⟩ = some (.bool a0_1) := (blk_cell BK262.out 1).trans rfl
                have hcz18_2 : wc.cell? ⟨gb262, 2, none⟩ = some (.bool false) := (blk_cell BK262.out 2).trans rfl
                have hcz18_3 : wc.cell? ⟨gb262, 3, none⟩ = some (.bool true) := (blk_cell BK262.out 3).trans rfl
                have hfz18_0 := blk_frozen BK262.out 0
                have hfz18_1 := blk_frozen BK262.out 1
                have hfz18_2 := blk_frozen BK262.out 2
                have hfz18_3 := blk_frozen BK262.out 3
                go_wp2
                go_ret
                exact ⟨by first | rfl | (simp [errW_none, errW_some] <;> rfl) | (simp [*, errW_none, errW_some] <;> rfl), by repeat (first | (with_reducible first | exact HB.out | apply below_alloc | apply pw_below_drewN | apply below_drew1 | refine below_set ?_ GE262.out) | exact HB.out)⟩
              · rw [if_neg c17] at H
                exact absurd H (by simp)
            · replace c16 := Bool.eq_false_iff.mpr c16
              subst c16
              have H1 : (some x3_5) = some r := by rw [if_neg (show ¬ (false = true) by decide)] at H; exact H
              clear H
              have H := H1
              clear H1
              obtain rfl := Option.some.inj H
              have hcz19_0 : wc.cell? ⟨gb262, 0, none⟩ = some (.bool a0_0) := (blk_cell BK262.out 0).trans rfl
              have hcz19_1 : wc.cell? ⟨gb262, 1, none⟩ = some (.bool a0_1) := (blk_cell BK262.out 1).trans rfl
              have hcz19_2 : wc.cell? ⟨gb262, 2, none⟩ = some (.bool false) := (blk_cell BK262.out 2).trans rfl
              have hcz19_3 : wc.cell? ⟨gb262, 3, none⟩ = some (.bool false) := (blk_cell BK262.out 3).trans rfl
              have hfz19_0 := blk_frozen BK262.out 0
              have hfz19_1 := blk_frozen BK262.out 1
              have hfz19_2 := blk_frozen BK262.out 2
              have hfz19_3 := blk_frozen BK262.out 3
              go_wp2
              go_ret
              exact ⟨by first | rfl | (simp [errW_none, errW_some] <;> rfl) | (simp [*, errW_none, errW_some] <;> rfl), by repeat (first | (with_reducible first | exact HB.out | apply below_alloc | apply pw_below_drewN | apply below_drew1 | refine below_set ?_ GE262.out) | exact HB.out)⟩

end Go.Proofs.Ytmioioaapikbkaa.IAll
