-- Written by the program wip/gen/inj.py of this repository, out of the translation, for this claim. Not trusted: Lean checks it.
import Derived.Test.YtmioioaapikbkaaIAllx0
namespace Go.Proofs.Ytmioioaapikbkaa.IAll
open Go.RowKit Go.Proofs.YtmioioaapikbkaaW.PrintWords Go.Proofs.YtmioioaapikbkaaW.PrintLast Go.Proofs.YtmioioaapikbkaaW.PrintMore
attribute [local go_sem] max2_int min2_int max_two min_two max_three min_three max_four min_four   -- for this text's walks alone
set_option linter.unusedVariables false
set_option linter.unusedSimpArgs false

/-! ### crierref07_Parse: function 16 -/
mutual
def crierref07_Parse.j0 : Nat → ByteArray → Bool → Bool → Bool → Bool → Bool → Option (Bool × Bool × Bool × Bool × Bool)
  | 0, _, _, _, _, _, _ => none
  | k + 1, x0, x17, x221000, x221001, x221002, x221003 => if x17 = true then (some (x221000, x221001, x221002, x221003, false)) else (if 0 < (x0.size : Int) then (if 1 < (x0.size : Int) then (crierref07_Parse.j1 k x0 1 ((bt x0 1) == 104) ((bt x0 0) == 101) x221001 x221002 x221003) else (crierref07_Parse.j1 k x0 1 false ((bt x0 0) == 101) x221001 x221002 x221003)) else (none))
def crierref07_Parse.j1 : Nat → ByteArray → Int → Bool → Bool → Bool → Bool → Bool → Option (Bool × Bool × Bool × Bool × Bool)
  | 0, _, _, _, _, _, _, _ => none
  | k + 1, x0, x5, x32, x221000, x221001, x221002, x221003 => if x32 = true then (crierref07_Parse.j2 k x0 (wrap64 (x5 + 1)) x221000 true x221002 x221003) else (crierref07_Parse.j2 k x0 x5 x221000 x221001 x221002 x221003)
def crierref07_Parse.j2 : Nat → ByteArray → Int → Bool → Bool → Bool → Bool → Option (Bool × Bool × Bool × Bool × Bool)
  | 0, _, _, _, _, _, _ => none
  | k + 1, x0, x5, x221000, x221001, x221002, x221003 => if x5 < (x0.size : Int) then (if 0 ≤ x5 then (crierref07_Parse.j3 k x0 x5 ((bt x0 x5) == 119) x221000 x221001 x221002 x221003) else (none)) else (crierref07_Parse.j3 k x0 x5 false x221000 x221001 x221002 x221003)
def crierref07_Parse.j3 : Nat → ByteArray → Int → Bool → Bool → Bool → Bool → Bool → Option (Bool × Bool × Bool × Bool × Bool)
  | 0, _, _, _, _, _, _, _ => none
  | k + 1, x0, x5, x45, x221000, x221001, x221002, x221003 => if x45 = true then (crierref07_Parse.j4 k x0 (wrap64 (x5 + 1)) x221000 x221001 true x221003) else (crierref07_Parse.j4 k x0 x5 x221000 x221001 x221002 x221003)
def crierref07_Parse.j4 : Nat → ByteArray → Int → Bool → Bool → Bool → Bool → Option (Bool × Bool × Bool × Bool × Bool)
  | 0, _, _, _, _, _, _ => none
  | k + 1, x0, x5, x221000, x221001, x221002, x221003 => if x5 < (x0.size : Int) then (if 0 ≤ x5 then (crierref07_Parse.j5 k x0 x5 ((bt x0 x5) == 97) x221000 x221001 x221002 x221003) else (none)) else (crierref07_Parse.j5 k x0 x5 false x221000 x221001 x221002 x221003)
def crierref07_Parse.j5 : Nat → ByteArray → Int → Bool → Bool → Bool → Bool → Bool → Option (Bool × Bool × Bool × Bool × Bool)
  | 0, _, _, _, _, _, _, _ => none
  | k + 1, x0, x5, x58, x221000, x221001, x221002, x221003 => if x58 = true then (if (wrap64 (x5 + 1)) = (x0.size : Int) then (some (x221000, x221001, x221002, true, true)) else (some (false, false, false, false, false))) else (if x5 = (x0.size : Int) then (some (x221000, x221001, x221002, x221003, true)) else (some (false, false, false, false, false)))
end
def crierref07_Parse.f (k : Nat) (a0 : ByteArray) : Option (Bool × Bool × Bool × Bool × Bool) := if a0.toList = ([] : List UInt8) then (crierref07_Parse.j0 k a0 true false false false false) else (if 0 < (a0.size : Int) then (if (bt a0 0) = 101 then (crierref07_Parse.j0 k a0 false false false false false) else (crierref07_Parse.j0 k a0 ((bt a0 0) != 108) false false false false)) else (none))
theorem crierref07_Parse.mono_l : ∀ k, (∀ y0 y1 y2 y3 y4 y5, LeO (crierref07_Parse.j0 k y0 y1 y2 y3 y4 y5) (crierref07_Parse.j0 (k + 1) y0 y1 y2 y3 y4 y5)) ∧ (∀ y0 y1 y2 y3 y4 y5 y6, LeO (crierref07_Parse.j1 k y0 y1 y2 y3 y4 y5 y6) (crierref07_Parse.j1 (k + 1) y0 y1 y2 y3 y4 y5 y6)) ∧ (∀ y0 y1 y2 y3 y4 y5, LeO (crierref07_Parse.j2 k y0 y1 y2 y3 y4 y5) (crierref07_Parse.j2 (k + 1) y0 y1 y2 y3 y4 y5)) ∧ (∀ y0 y1 y2 y3 y4 y5 y6, LeO (crierref07_Parse.j3 k y0 y1 y2 y3 y4 y5 y6) (crierref07_Parse.j3 (k + 1) y0 y1 y2 y3 y4 y5 y6)) ∧ (∀ y0 y1 y2 y3 y4 y5, LeO (crierref07_Parse.j4 k y0 y1 y2 y3 y4 y5) (crierref07_Parse.j4 (k + 1) y0 y1 y2 y3 y4 y5)) ∧ (∀ y0 y1 y2 y3 y4 y5 y6, LeO (crierref07_Parse.j5 k y0 y1 y2 y3 y4 y5 y6) (crierref07_Parse.j5 (k + 1) y0 y1 y2 y3 y4 y5 y6))
  | 0 => ⟨fun _ _ _ _ _ _ r h => by simp [crierref07_Parse.j0] at h, fun _ _ _ _ _ _ _ r h => by simp [crierref07_Parse.j1] at h, fun _ _ _ _ _ _ r h => by simp [crierref07_Parse.j2] at h, fun _ _ _ _ _ _ _ r h => by simp [crierref07_Parse.j3] at h, fun _ _ _ _ _ _ r h => by simp [crierref07_Parse.j4] at h, fun _ _ _ _ _ _ _ r h => by simp [crierref07_Parse.j5] at h⟩
  | k + 1 => by
    obtain ⟨ih0, ih1, ih2, ih3, ih4, ih5⟩ := crierref07_Parse.mono_l k
    refine ⟨?_, ?_, ?_, ?_, ?_, ?_⟩
    · intro y0 y1 y2 y3 y4 y5
      unfold crierref07_Parse.j0
      repeat' first
      | (with_reducible exact ih0 _ _ _ _ _ _)
      | (with_reducible exact ih1 _ _ _ _ _ _ _)
      | (with_reducible exact ih2 _ _ _ _ _ _)
      | (with_reducible exact ih3 _ _ _ _ _ _ _)
      | (with_reducible exact ih4 _ _ _ _ _ _)
      | (with_reducible exact ih5 _ _ _ _ _ _ _)
      | (with_reducible exact LeO.refl _)
      | (with_reducible exact LeO.none _)
      | (with_reducible refine LeO.ite ?_ ?_)
      | (with_reducible refine LeO.bind ?_ (fun _ => ?_))
      | exact ih0 _ _ _ _ _ _
      | exact ih1 _ _ _ _ _ _ _
      | exact ih2 _ _ _ _ _ _
      | exact ih3 _ _ _ _ _ _ _
      | exact ih4 _ _ _ _ _ _
      | exact ih5 _ _ _ _ _ _ _
      | exact LeO.none _
      | refine LeO.ite ?_ ?_
      | refine LeO.bind ?_ (fun _ => ?_)
    · intro y0 y1 y2 y3 y4 y5 y6
      unfold crierref07_Parse.j1
      repeat' first
      | (with_reducible exact ih0 _ _ _ _ _ _)
      | (with_reducible exact ih1 _ _ _ _ _ _ _)
      | (with_reducible exact ih2 _ _ _ _ _ _)
      | (with_reducible exact ih3 _ _ _ _ _ _ _)
      | (with_reducible exact ih4 _ _ _ _ _ _)
      | (with_reducible exact ih5 _ _ _ _ _ _ _)
      | (with_reducible exact LeO.refl _)
      | (with_reducible exact LeO.none _)
      | (with_reducible refine LeO.ite ?_ ?_)
      | (with_reducible refine LeO.bind ?_ (fun _ => ?_))
      | exact ih0 _ _ _ _ _ _
      | exact ih1 _ _ _ _ _ _ _
      | exact ih2 _ _ _ _ _ _
      | exact ih3 _ _ _ _ _ _ _
      | exact ih4 _ _ _ _ _ _
      | exact ih5 _ _ _ _ _ _ _
      | exact LeO.none _
      | refine LeO.ite ?_ ?_
      | refine LeO.bind ?_ (fun _ => ?_)
    · intro y0 y1 y2 y3 y4 y5
      unfold crierref07_Parse.j2
      repeat' first
      | (with_reducible exact ih0 _ _ _ _ _ _)
      | (with_reducible exact ih1 _ _ _ _ _ _ _)
      | (with_reducible exact ih2 _ _ _ _ _ _)
      | (with_reducible exact ih3 _ _ _ _ _ _ _)
      | (with_reducible exact ih4 _ _ _ _ _ _)
      | (with_reducible exact ih5 _ _ _ _ _ _ _)
      | (with_reducible exact LeO.refl _)
      | (with_reducible exact LeO.none _)
      | (with_reducible refine LeO.ite ?_ ?_)
      | (with_reducible refine LeO.bind ?_ (fun _ => ?_))
      | exact ih0 _ _ _ _ _ _
      | exact ih1 _ _ _ _ _ _ _
      | exact ih2 _ _ _ _ _ _
      | exact ih3 _ _ _ _ _ _ _
      | exact ih4 _ _ _ _ _ _
      | exact ih5 _ _ _ _ _ _ _
      | exact LeO.none _
      | refine LeO.ite ?_ ?_
      | refine LeO.bind ?_ (fun _ => ?_)
    · intro y0 y1 y2 y3 y4 y5 y6
      unfold crierref07_Parse.j3
      repeat' first
      | (with_reducible exact ih0 _ _ _ _ _ _)
      | (with_reducible exact ih1 _ _ _ _ _ _ _)
      | (with_reducible exact ih2 _ _ _ _ _ _)
      | (with_reducible exact ih3 _ _ _ _ _ _ _)
      | (with_reducible exact ih4 _ _ _ _ _ _)
      | (with_reducible exact ih5 _ _ _ _ _ _ _)
      | (with_reducible exact LeO.refl _)
      | (with_reducible exact LeO.none _)
      | (with_reducible refine LeO.ite ?_ ?_)
      | (with_reducible refine LeO.bind ?_ (fun _ => ?_))
      | exact ih0 _ _ _ _ _ _
      | exact ih1 _ _ _ _ _ _ _
      | exact ih2 _ _ _ _ _ _
      | exact ih3 _ _ _ _ _ _ _
      | exact ih4 _ _ _ _ _ _
      | exact ih5 _ _ _ _ _ _ _
      | exact LeO.none _
      | refine LeO.ite ?_ ?_
      | refine LeO.bind ?_ (fun _ => ?_)
    · intro y0 y1 y2 y3 y4 y5
      unfold crierref07_Parse.j4
      repeat' first
      | (with_reducible exact ih0 _ _ _ _ _ _)
      | (with_reducible exact ih1 _ _ _ _ _ _ _)
      | (with_reducible exact ih2 _ _ _ _ _ _)
      | (with_reducible exact ih3 _ _ _ _ _ _ _)
      | (with_reducible exact ih4 _ _ _ _ _ _)
      | (with_reducible exact ih5 _ _ _ _ _ _ _)
      | (with_reducible exact LeO.refl _)
      | (with_reducible exact LeO.none _)
      | (with_reducible refine LeO.ite ?_ ?_)
      | (with_reducible refine LeO.bind ?_ (fun _ => ?_))
      | exact ih0 _ _ _ _ _ _
      | exact ih1 _ _ _ _ _ _ _
      | exact ih2 _ _ _ _ _ _
      | exact ih3 _ _ _ _ _ _ _
      | exact ih4 _ _ _ _ _ _
      | exact ih5 _ _ _ _ _ _ _
      | exact LeO.none _
      | refine LeO.ite ?_ ?_
      | refine LeO.bind ?_ (fun _ => ?_)
    · intro y0 y1 y2 y3 y4 y5 y6
      unfold crierref07_Parse.j5
      repeat' first
      | (with_reducible exact ih0 _ _ _ _ _ _)
      | (with_reducible exact ih1 _ _ _ _ _ _ _)
      | (with_reducible exact ih2 _ _ _ _ _ _)
      | (with_reducible exact ih3 _ _ _ _ _ _ _)
      | (with_reducible exact ih4 _ _ _ _ _ _)
      | (with_reducible exact ih5 _ _ _ _ _ _ _)
      | (with_reducible exact LeO.refl _)
      | (with_reducible exact LeO.none _)
      | (with_reducible refine LeO.ite ?_ ?_)
      | (with_reducible refine LeO.bind ?_ (fun _ => ?_))
      | exact ih0 _ _ _ _ _ _
      | exact ih1 _ _ _ _ _ _ _
      | exact ih2 _ _ _ _ _ _
      | exact ih3 _ _ _ _ _ _ _
      | exact ih4 _ _ _ _ _ _
      | exact ih5 _ _ _ _ _ _ _
      | exact LeO.none _
      | refine LeO.ite ?_ ?_
      | refine LeO.bind ?_ (fun _ => ?_)
theorem crierref07_Parse.mono : ∀ a0 k, LeO (crierref07_Parse.f k a0) (crierref07_Parse.f (k + 1) a0) := by
  intro a0 k
  obtain ⟨ih0, ih1, ih2, ih3, ih4, ih5⟩ := crierref07_Parse.mono_l k
  unfold crierref07_Parse.f
  repeat' first
      | (with_reducible exact ih0 _ _ _ _ _ _)
      | (with_reducible exact ih1 _ _ _ _ _ _ _)
      | (with_reducible exact ih2 _ _ _ _ _ _)
      | (with_reducible exact ih3 _ _ _ _ _ _ _)
      | (with_reducible exact ih4 _ _ _ _ _ _)
      | (with_reducible exact ih5 _ _ _ _ _ _ _)
      | (with_reducible exact LeO.refl _)
      | (with_reducible exact LeO.none _)
      | (with_reducible refine LeO.ite ?_ ?_)
      | (with_reducible refine LeO.bind ?_ (fun _ => ?_))
      | exact ih0 _ _ _ _ _ _
      | exact ih1 _ _ _ _ _ _ _
      | exact ih2 _ _ _ _ _ _
      | exact ih3 _ _ _ _ _ _ _
      | exact ih4 _ _ _ _ _ _
      | exact ih5 _ _ _ _ _ _ _
      | exact LeO.none _
      | refine LeO.ite ?_ ?_
      | refine LeO.bind ?_ (fun _ => ?_)
set_option maxHeartbeats 8000000 in
set_option maxRecDepth 100000 in
theorem crierref07_Parse.calls (k : Nat) (a0 : ByteArray) (r1 : Bool) (r2 : Bool) (r3 : Bool) (r4 : Bool) (r5 : Bool) (w : World) (h : crierref07_Parse.f k a0 = some (r1, r2, r3, r4, r5)) :
    Calls Try.prog 16 #[.string a0] w fun e w' => e = .returned (.tuple #[.agg #[.bool r1, .bool r2, .bool r3, .bool r4], .bool r5]) ∧ Below w.heap.size w w' := by
  have hu23 := Try.underlying23
  have HB := Aside0.mk (Below.refl w.heap.size w)
  have H : (if a0.toList = ([] : List UInt8) then (crierref07_Parse.j0 k a0 true false false false false) else (if 0 < (a0.size : Int) then (if (bt a0 0) = 101 then (crierref07_Parse.j0 k a0 false false false false false) else (crierref07_Parse.j0 k a0 ((bt a0 0) != 108) false false false false)) else (none))) = some (r1, r2, r3, r4, r5) := h
  clear h
  have HC2 := Aside0.mk H
  clear H
  go_enter Try.func16, Try.ntmps16
  go_upto_region 2 with (first | ((with_reducible refine gate_dst (N := 2) rfl ?_); refine box_event ?hg (N := 2) ?hd (cs := #[.bool false, .bool false, .bool false, .bool false]) (t := 23) ?hr ?_; (case hd => rfl); (case hg => rfl); (case hr => first | (go_simp; done) | (go_simp; rfl)); intro gb219 hg w3 hbox hb; have n0_ := Aside0.mk (below_step (by repeat (first | (with_reducible first | exact HB.out | apply below_alloc | apply pw_below_drewN | apply below_drew1) | exact HB.out)) hb); have n1_ := Aside0.mk (hbox); have n2_ := Aside0.mk ((by rw [hg]; exact (below_size (by repeat (first | (with_reducible first | exact HB.out | apply below_alloc | apply pw_below_drewN | apply below_drew1) | exact HB.out))) : w.heap.size ≤ gb219)); have n3_ := Aside0.mk ((by rw [hg]; exact (below_size (by repeat (first | (with_reducible first | exact HB.out | apply below_alloc | apply pw_below_drewN | apply below_drew1) | exact HB.out))) : w.heap.size ≤ gb219)); clear HB; have HB := n0_; have BK219 := n1_; have GW219 := n2_; have GE219 := n3_; clear n0_ n1_ n2_ n3_; clear hb hbox hg) | ((with_reducible refine gate_dst (N := 4) rfl ?_); refine box_event ?hg (N := 4) ?hd (cs := #[.bool false, .bool false, .bool false, .bool false]) (t := 23) ?hr ?_; (case hd => rfl); (case hg => rfl); (case hr => first | (go_simp; done) | (go_simp; rfl)); intro gb220 hg w4 hbox hb; have n0_ := Aside0.mk (blk_below (g := gb219) (o := .cells #[.bool false, .bool false, .bool false, .bool false] 23 (0, 0)) (by (with_reducible repeat (first | refine blk_drewN ?_ _ | refine blk_drew ?_ | refine blk_alloc ?_ _)); exact BK219.out) hb); have n1_ := Aside0.mk (below_step (by repeat (first | (with_reducible first | exact HB.out | apply below_alloc | apply pw_below_drewN | apply below_drew1 | refine below_set ?_ GE219.out) | exact HB.out)) hb); have n2_ := Aside0.mk (hbox); have n3_ := Aside0.mk ((by rw [hg]; exact (below_size (by repeat (first | (with_reducible first | exact HB.out | apply below_alloc | apply pw_below_drewN | apply below_drew1 | refine below_set ?_ GE219.out) | exact HB.out))) : w.heap.size ≤ gb220)); have n4_ := Aside0.mk ((by rw [hg]; exact (below_size (by repeat (first | (with_reducible first | exact HB.out | apply below_alloc | apply pw_below_drewN | apply below_drew1 | refine below_set ?_ GE219.out) | exact HB.out))) : w.heap.size ≤ gb220)); have n5_ := Aside0.mk ((by rw [hg]; exact Nat.ne_of_lt (blk_lt (g := gb219) (o := .cells #[.bool false, .bool false, .bool false, .bool false] 23 (0, 0)) (by (with_reducible repeat (first | refine blk_drewN ?_ _ | refine blk_drew ?_ | refine blk_alloc ?_ _)); exact BK219.out)) : gb219 ≠ gb220)); have n6_ := Aside0.mk ((by rw [hg]; exact Nat.ne_of_gt (blk_lt (g := gb219) (o := .cells #[.bool false, .bool false, .bool false, .bool false] 23 (0, 0)) (by (with_reducible repeat (first | refine blk_drewN ?_ _ | refine blk_drew ?_ | refine blk_alloc ?_ _)); exact BK219.out)) : gb220 ≠ gb219)); clear BK219; clear HB; have BK219 := n0_; have HB := n1_; have BK220 := n2_; have GW220 := n3_; have GE220 := n4_; have NB219_220 := n5_; have NB220_219 := n6_; clear n0_ n1_ n2_ n3_ n4_ n5_ n6_; clear hb hbox hg))
  (try simp only [Act.put, List.setIfInBounds_toArray, List.set_cons_zero, List.set_cons_succ])
  go_cut [17] (fun v17 wc => ∃ (kq : Nat) (x17_1 : Bool), v17 = .bool x17_1 ∧ Aside0 (crierref07_Parse.j0 kq a0 x17_1 false false false false = some (r1, r2, r3, r4, r5)) ∧ Aside0 (kq ≤ k) ∧ Aside0 (wc.heap[gb219]? = some (.cells #[.bool false, .bool false, .bool false, .bool false] 23 (0, 0))) ∧ Aside0 (wc.heap[gb220]? = some (.cells #[.bool false, .bool false, .bool false, .bool false] 23 (0, 0))) ∧ Aside0 (Below w.heap.size w wc))
  case first =>
    have H := HC2.out
    clear HC2
    by_cases c5 : a0.toList = ([] : List UInt8)
    · rw [if_pos c5] at H
      have c5b0 : (a0.toList == ([] : List UInt8)) = true := beq_iff_eq.mpr c5
      have c5b1 : (a0.toList != ([] : List UInt8)) = false := bne_eq_false_iff_eq.mpr c5
      clear c5
      (first | rw [c5b0] | (simp only [i64_w, i32_w]; rw [c5b0]) | skip)
      have H' := Aside0.mk H
      clear H
      go_wp2
      go_meet
      case rel => exact ⟨_, (true), (by first | rfl | (simp; done) | (simp [*]; done) | (simp; exact (IntWalk.wrap64_in _ (by decide)).symm)), H', ⟨by first | omega | exact Nat.le_refl _⟩, ⟨by (with_reducible repeat (first | refine blk_drewN ?_ _ | refine blk_drew ?_ | refine blk_alloc ?_ _)); exact BK219.out⟩, ⟨by (with_reducible repeat (first | refine blk_drewN ?_ _ | refine blk_drew ?_ | refine blk_alloc ?_ _)); exact BK220.out⟩, ⟨by repeat (first | (with_reducible first | exact HB.out | apply below_alloc | apply pw_below_drewN | apply below_drew1 | refine below_set ?_ GE219.out | refine below_set ?_ GE220.out) | exact HB.out)⟩⟩
    · rw [if_neg c5] at H
      have c5b0 : (a0.toList == ([] : List UInt8)) = false := beq_eq_false_iff_ne.mpr c5
      have c5b1 : (a0.toList != ([] : List UInt8)) = true := bne_iff_ne.mpr c5
      (first | rw [c5b0] | (simp only [i64_w, i32_w]; rw [c5b0]) | skip)
      by_cases c6 : 0 < (a0.size : Int)
      · rw [if_pos c6] at H
        have c6b0 : decide (0 < (a0.size : Int)) = true := decide_eq_true c6
        have c6b1 : decide (0 < a0.size) = true := decide_eq_true (by omega)
        clear c6
        by_cases c8 : (bt a0 0) = 101
        · rw [if_pos c8] at H
          have c8b0 : ((bt a0 0) == 101) = true := beq_iff_eq.mpr c8
          have c8b1 : ((bt a0 0) != 101) = false := bne_eq_false_iff_eq.mpr c8
          clear c8
          have H' := Aside0.mk H
          clear H
          have p7 : 0 ≤ (0 : Int) := (by omega)
          have q7 : 0 < a0.size := (by have : (0 : Int) < (a0.size : Int) := of_decide_eq_true (by first | (with_reducible assumption) | assumption); omega)
          have hx7 : ∀ h : 0 < a0.size, ((a0[0]'h).toNat : Int) = bt a0 0 := bt_at a0 0
          clear p7
          have qi7 : (0 < (a0.size : Int)) = True := eq_true (of_decide_eq_true (by first | (with_reducible assumption) | assumption))
          replace q7 := eq_true q7
          go_wp2
          go_meet
          case rel => exact ⟨_, (false), (by first | rfl | (simp; done) | (simp [*]; done) | (simp; exact (IntWalk.wrap64_in _ (by decide)).symm)), H', ⟨by first | omega | exact Nat.le_refl _⟩, ⟨by (with_reducible repeat (first | refine blk_drewN ?_ _ | refine blk_drew ?_ | refine blk_alloc ?_ _)); exact BK219.out⟩, ⟨by (with_reducible repeat (first | refine blk_drewN ?_ _ | refine blk_drew ?_ | refine blk_alloc ?_ _)); exact BK220.out⟩, ⟨by repeat (first | (with_reducible first | exact HB.out | apply below_alloc | apply pw_below_drewN | apply below_drew1 | refine below_set ?_ GE219.out | refine below_set ?_ GE220.out) | exact HB.out)⟩⟩
        · rw [if_neg c8] at H
          have c8b0 : ((bt a0 0) == 101) = false := beq_eq_false_iff_ne.mpr c8
          have c8b1 : ((bt a0 0) != 101) = true := bne_iff_ne.mpr c8
          have H' := Aside0.mk H
          clear H
          have p7 : 0 ≤ (0 : Int) := (by omega)
          have q7 : 0 < a0.size := (by have : (0 : Int) < (a0.size : Int) := of_decide_eq_true (by first | (with_reducible assumption) | assumption); omega)
          have hx7 : ∀ h : 0 < a0.size, ((a0[0]'h).toNat : Int) = bt a0 0 := bt_at a0 0
          clear p7
          have qi7 : (0 < (a0.size : Int)) = True := eq_true (of_decide_eq_true (by first | (with_reducible assumption) | assumption))
          replace q7 := eq_true q7
          have p9 : 0 ≤ (0 : Int) := (by omega)
          have q9 : 0 < a0.size := (by have : (0 : Int) < (a0.size : Int) := of_decide_eq_true (by first | (with_reducible assumption) | assumption); omega)
          have hx9 : ∀ h : 0 < a0.size, ((a0[0]'h).toNat : Int) = bt a0 0 := bt_at a0 0
          clear p9
          have qi9 : (0 < (a0.size : Int)) = True := eq_true (of_decide_eq_true (by first | (with_reducible assumption) | assumption))
          replace q9 := eq_true q9
          go_wp2
          go_meet
          case rel => exact ⟨_, (((bt a0 0) != 108)), (by first | rfl | (simp; done) | (simp [*]; done) | (simp; exact (IntWalk.wrap64_in _ (by decide)).symm)), H', ⟨by first | omega | exact Nat.le_refl _⟩, ⟨by (with_reducible repeat (first | refine blk_drewN ?_ _ | refine blk_drew ?_ | refine blk_alloc ?_ _)); exact BK219.out⟩, ⟨by (with_reducible repeat (first | refine blk_drewN ?_ _ | refine blk_drew ?_ | refine blk_alloc ?_ _)); exact BK220.out⟩, ⟨by repeat (first | (with_reducible first | exact HB.out | apply below_alloc | apply pw_below_drewN | apply below_drew1 | refine below_set ?_ GE219.out | refine below_set ?_ GE220.out) | exact HB.out)⟩⟩
      · rw [if_neg c6] at H
        exact absurd H (by simp)
  case rest =>
    clear HC2
    try clear c1
    try clear p2
    try clear c5
    try clear c5b0
    try clear c5b1
    try clear c6
    try clear c6b0
    try clear c6b1
    try clear p7
    try clear q7
    try clear hx7
    try clear qi7
    try clear c8
    try clear c8b0
    try clear c8b1
    try clear p9
    try clear q9
    try clear hx9
    try clear qi9
    try clear p7
    try clear p9
    try clear q7
    try clear q9
    obtain ⟨kq, x17_1, rfl, HA, HJ1, BK219, BK220, HB⟩ := hcut
    cases kq with
    | zero => exact absurd HA.out (by simp [crierref07_Parse.j0])
    | succ kj1 =>
      have H := HA.out
      clear HA
      simp only [crierref07_Parse.j0] at H
      by_cases c10 : x17_1 = true
      · subst c10
        have H1 : (some (false, false, false, false, false)) = some (r1, r2, r3, r4, r5) := by first | (rw [if_pos rfl] at H; exact H) | (rw [if_pos trivial] at H; exact H)
        clear H
        have H := H1
        clear H1
        simp only [Option.some.injEq, Prod.mk.injEq] at H
        obtain ⟨rfl, rfl, rfl, rfl, rfl⟩ := H
        have hnb11 := NB220_219.out
        have hnc11 := NB219_220.out
        have hcz12_0 : wc.cell? ⟨gb220, 0, none⟩ = some (.bool false) := (blk_cell BK220.out 0).trans rfl
        have hcz12_1 : wc.cell? ⟨gb220, 1, none⟩ = some (.bool false) := (blk_cell BK220.out 1).trans rfl
        have hcz12_2 : wc.cell? ⟨gb220, 2, none⟩ = some (.bool false) := (blk_cell BK220.out 2).trans rfl
        have hcz12_3 : wc.cell? ⟨gb220, 3, none⟩ = some (.bool false) := (blk_cell BK220.out 3).trans rfl
        have hfz12_0 := blk_frozen BK220.out 0
        have hfz12_1 := blk_frozen BK220.out 1
        have hfz12_2 := blk_frozen BK220.out 2
        have hfz12_3 := blk_frozen BK220.out 3
        have hcz13_0 : wc.cell? ⟨gb219, 0, none⟩ = some (.bool false) := (blk_cell BK219.out 0).trans rfl
        have hcz13_1 : wc.cell? ⟨gb219, 1, none⟩ = some (.bool false) := (blk_cell BK219.out 1).trans rfl
        have hcz13_2 : wc.cell? ⟨gb219, 2, none⟩ = some (.bool false) := (blk_cell BK219.out 2).trans rfl
        have hcz13_3 : wc.cell? ⟨gb219, 3, none⟩ = some (.bool false) := (blk_cell BK219.out 3).trans rfl
        have hfz13_0 := blk_frozen BK219.out 0
        have hfz13_1 := blk_frozen BK219.out 1
        have hfz13_2 := blk_frozen BK219.out 2
        have hfz13_3 := blk_frozen BK219.out 3
        go_wp2
        refine bodyPost_ret (results_ct rfl _ _ gb219 23 #[.bool false, .bool false, .bool false, .bool false] (0, 0) _ rfl (by (with_reducible repeat (first | refine blk_drewN ?_ _ | refine blk_drew ?_ | refine blk_alloc ?_ _)); refine blk_put (cs := #[.bool false, .bool false, .bool false, .bool false]) ?_ 3 _ rfl; (with_reducible repeat (first | refine blk_drewN ?_ _ | refine blk_drew ?_ | refine blk_alloc ?_ _)); refine blk_put (cs := #[.bool false, .bool false, .bool false, .bool false]) ?_ 2 _ rfl; (with_reducible repeat (first | refine blk_drewN ?_ _ | refine blk_drew ?_ | refine blk_alloc ?_ _)); refine blk_put (cs := #[.bool false, .bool false, .bool false, .bool false]) ?_ 1 _ rfl; (with_reducible repeat (first | refine blk_drewN ?_ _ | refine blk_drew ?_ | refine blk_alloc ?_ _)); refine blk_put (cs := #[.bool false, .bool false, .bool false, .bool false]) ?_ 0 _ rfl; (with_reducible repeat (first | refine blk_drewN ?_ _ | refine blk_drew ?_ | refine blk_alloc ?_ _)); exact BK219.out) Try.underlying23 rfl (by kernel_rfl)) rfl ?_
        exact ⟨by first | rfl | (simp [errW_none, errW_some] <;> rfl) | (simp [*, errW_none, errW_some] <;> rfl), by repeat (first | (with_reducible first | exact HB.out | apply below_alloc | apply pw_below_drewN | apply below_drew1 | refine below_set ?_ GE219.out | refine below_set ?_ GE220.out) | exact HB.out)⟩
      · replace c10 := Bool.eq_false_iff.mpr c10
        subst c10
        have H1 : (if 0 < (a0.size : Int) then (if 1 < (a0.size : Int) then (crierref07_Parse.j1 kj1 a0 1 ((bt a0 1) == 104) ((bt a0 0) == 101) false false false) else (crierref07_Parse.j1 kj1 a0 1 false ((bt a0 0) == 101) false false false)) else (none)) = some (r1, r2, r3, r4, r5) := by rw [if_neg (show ¬ (false = true) by decide)] at H; exact H
        clear H
        have H := H1
        clear H1
        by_cases c14 : 0 < (a0.size : Int)
        · rw [if_pos c14] at H
          have c14b0 : decide (0 < (a0.size : Int)) = true := decide_eq_true c14
          have c14b1 : decide (0 < a0.size) = true := decide_eq_true (by omega)
          clear c14
          have HC16 := Aside0.mk H
          clear H
          have p15 : 0 ≤ (0 : Int) := (by omega)
          have q15 : 0 < a0.size := (by have : (0 : Int) < (a0.size : Int) := of_decide_eq_true (by first | (with_reducible assumption) | assumption); omega)
          have hx15 : ∀ h : 0 < a0.size, ((a0[0]'h).toNat : Int) = bt a0 0 := bt_at a0 0
          clear p15
          have qi15 : (0 < (a0.size : Int)) = True := eq_true (of_decide_eq_true (by first | (with_reducible assumption) | assumption))
          replace q15 := eq_true q15
          have hnb17 := NB220_219.out
          have hnc17 := NB219_220.out
          have hcz18_0 : wc.cell? ⟨gb220, 0, none⟩ = some (.bool false) := (blk_cell BK220.out 0).trans rfl
          have hcz18_1 : wc.cell? ⟨gb220, 1, none⟩ = some (.bool false) := (blk_cell BK220.out 1).trans rfl
          have hcz18_2 : wc.cell? ⟨gb220, 2, none⟩ = some (.bool false) := (blk_cell BK220.out 2).trans rfl
          have hcz18_3 : wc.cell? ⟨gb220, 3, none⟩ = some (.bool false) := (blk_cell BK220.out 3).trans rfl
          have hfz18_0 := blk_frozen BK220.out 0
          have hfz18_1 := blk_frozen BK220.out 1
          have hfz18_2 := blk_frozen BK220.out 2
          have hfz18_3 := blk_frozen BK220.out 3
          go_upto_region 6 with (fail)
          go_cut [32] (fun v32 wc => ∃ (kq : Nat) (x32_15 : Bool), v32 = .bool x32_15 ∧ Aside0 (crierref07_Parse.j1 kq a0 1 x32_15 ((bt a0 0) == 101) false false false = some (r1, r2, r3, r4, r5)) ∧ Aside0 (kq ≤ kj1) ∧ Aside0 (wc.heap[gb219]? = some (.cells #[.bool false, .bool false, .bool false, .bool false] 23 (0, 0))) ∧ Aside0 (wc.heap[gb220]? = some (.cells #[.bool ((bt a0 0) == 101), .bool false, .bool false, .bool false] 23 (0, 0))) ∧ Aside0 (Below w.heap.size w wc))
          case first =>
            have H := HC16.out
            clear HC16
            by_cases c19 : 1 < (a0.size : Int)
            · rw [if_pos c19] at H
              have c19b0 : decide (1 < (a0.size : Int)) = true := decide_eq_true c19
              have c19b1 : decide (1 < a0.size) = true := decide_eq_true (by omega)
              clear c19
              (first | rw [c19b0] | (simp only [i64_w, i32_w]; rw [c19b0]) | skip)
              have H' := Aside0.mk H
              clear H
              have p20 : 0 ≤ (1 : Int) := (by omega)
              have q20 : 1 < a0.size := (by have : (1 : Int) < (a0.size : Int) := of_decide_eq_true (by first | (with_reducible assumption) | assumption); omega)
              have hx20 : ∀ h : 1 < a0.size, ((a0[1]'h).toNat : Int) = bt a0 1 := bt_at a0 1
              clear p20
              have qi20 : (1 < (a0.size : Int)) = True := eq_true (of_decide_eq_true (by first | (with_reducible assumption) | assumption))
              replace q20 := eq_true q20
              go_wp2
              go_meet
              case rel => exact ⟨_, (((bt a0 1) == 104)), (by first | rfl | (simp; done) | (simp [*]; done) | (simp; exact (IntWalk.wrap64_in _ (by decide)).symm)), H', ⟨by have := HJ1.out; first | omega | exact Nat.le_refl _⟩, ⟨by (with_reducible repeat (first | refine blk_drewN ?_ _ | refine blk_drew ?_ | refine blk_alloc ?_ _)); refine blk_far ?_ NB219_220.out _; (with_reducible repeat (first | refine blk_drewN ?_ _ | refine blk_drew ?_ | refine blk_alloc ?_ _)); exact BK219.out⟩, ⟨by (with_reducible repeat (first | refine blk_drewN ?_ _ | refine blk_drew ?_ | refine blk_alloc ?_ _)); refine blk_put (cs := #[.bool false, .bool false, .bool false, .bool false]) ?_ 0 _ rfl; (with_reducible repeat (first | refine blk_drewN ?_ _ | refine blk_drew ?_ | refine blk_alloc ?_ _)); exact BK220.out⟩, ⟨by repeat (first | (with_reducible first | exact HB.out | apply below_alloc | apply pw_below_drewN | apply below_drew1 | refine below_set ?_ GE219.out | refine below_set ?_ GE220.out) | exact HB.out)⟩⟩
            · rw [if_neg c19] at H
              have c19b0 : decide (1 < (a0.size : Int)) = false := decide_eq_false c19
              have c19b1 : decide (1 < a0.size) = false := decide_eq_false (by omega)
              clear c19
              (first | rw [c19b0] | (simp only [i64_w, i32_w]; rw [c19b0]) | skip)
              have H' := Aside0.mk H
              clear H
              go_wp2
              go_meet
              case rel => exact ⟨_, (false), (by first | rfl | (simp; done) | (simp [*]; done) | (simp; exact (IntWalk.wrap64_in _ (by decide)).symm)), H', ⟨by have := HJ1.out; first | omega | exact Nat.le_refl _⟩, ⟨by (with_reducible repeat (first | refine blk_drewN ?_ _ | refine blk_drew ?_ | refine blk_alloc ?_ _)); refine blk_far ?_ NB219_220.out _; (with_reducible repeat (first | refine blk_drewN ?_ _ | refine blk_drew ?_ | refine blk_alloc ?_ _)); exact BK219.out⟩, ⟨by (with_reducible repeat (first | refine blk_drewN ?_ _ | refine blk_drew ?_ | refine blk_alloc ?_ _)); refine blk_put (cs := #[.bool false, .bool false, .bool false, .bool false]) ?_ 0 _ rfl; (with_reducible repeat (first | refine blk_drewN ?_ _ | refine blk_drew ?_ | refine blk_alloc ?_ _)); exact BK220.out⟩, ⟨by repeat (first | (with_reducible first | exact HB.out | apply below_alloc | apply pw_below_drewN | apply below_drew1 | refine below_set ?_ GE219.out | refine below_set ?_ GE220.out) | exact HB.out)⟩⟩
          case rest =>
            clear HC16
            try clear c1
            try clear p1
            try clear q1
            try clear hx1
            try clear qi1
            try clear p2
            try clear q2
            try clear hx2
            try clear qi2
            try clear c5
            try clear c5b0
            try clear c5b1
            try clear c6
            try clear c6b0
            try clear c6b1
            try clear p7
            try clear q7
            try clear hx7
            try clear qi7
            try clear c8
            try clear c8b0
            try clear c8b1
            try clear p9
            try clear q9
            try clear hx9
            try clear qi9
            try clear c10
            try clear c11
            try clear c14
            try clear c14b0
            try clear c14b1
            try clear p15
            try clear q15
            try clear hx15
            try clear qi15
            try clear c16
            try clear c17
            try clear c19
            try clear c19b0
            try clear c19b1
            try clear p20
            try clear q20
            try clear hx20
            try clear qi20
            try clear hcz12_0
            try clear hcz12_1
            try clear hcz12_2
            try clear hcz12_3
            try clear hcz13_0
            try clear hcz13_1
            try clear hcz13_2
            try clear hcz13_3
            try clear hcz18_0
            try clear hcz18_1
            try clear hcz18_2
            try clear hcz18_3
            try clear hfz12_0
            try clear hfz12_1
            try clear hfz12_2
            try clear hfz12_3
            try clear hfz13_0
            try clear hfz13_1
            try clear hfz13_2
            try clear hfz13_3
            try clear hfz18_0
            try clear hfz18_1
            try clear hfz18_2
            try clear hfz18_3
            try clear p15
            try clear p2
            try clear p20
            try clear p7
            try clear p9
            try clear q15
            try clear q20
            try clear q7
            try clear q9
            obtain ⟨kq, x32_15, rfl, HA, HJ15, BK219, BK220, HB⟩ := hcut
            cases kq with
            | zero => exact absurd HA.out (by simp [crierref07_Parse.j1])
            | succ kj15 =>
              have H := HA.out
              clear HA
              simp only [crierref07_Parse.j1] at H
              have HC21 := Aside0.mk H
              clear H
              go_upto_if 32 with (fail)
              go_cut [5] (fun v5 wc => ∃ (kq : Nat) (x5_20 : Int) (x221001_20 : Bool), v5 = .int .i64 x5_20 ∧ Aside0 (crierref07_Parse.j2 kq a0 x5_20 ((bt a0 0) == 101) x221001_20 false false = some (r1, r2, r3, r4, r5)) ∧ Aside0 (kq ≤ kj15) ∧ Aside0 (wc.heap[gb219]? = some (.cells #[.bool false, .bool false, .bool false, .bool false] 23 (0, 0))) ∧ Aside0 (wc.heap[gb220]? = some (.cells #[.bool ((bt a0 0) == 101), .bool x221001_20, .bool false, .bool false] 23 (0, 0))) ∧ Aside0 (Below w.heap.size w wc))
              case first =>
                have H := HC21.out
                clear HC21
                by_cases c22 : x32_15 = true
                · subst c22
                  have H1 : (crierref07_Parse.j2 kj15 a0 (wrap64 (1 + 1)) ((bt a0 0) == 101) true false false) = some (r1, r2, r3, r4, r5) := by first | (rw [if_pos rfl] at H; exact H) | (rw [if_pos trivial] at H; exact H)
                  clear H
                  have H := H1
                  clear H1
                  have H' := Aside0.mk H
                  clear H
                  have hnb23 := NB220_219.out
                  have hnc23 := NB219_220.out
                  have hcz24_0 : wc.cell? ⟨gb220, 0, none⟩ = some (.bool ((bt a0 0) == 101)) := (blk_cell BK220.out 0).trans rfl
                  have hcz24_1 : wc.cell? ⟨gb220, 1, none⟩ = some (.bool false) := (blk_cell BK220.out 1).trans rfl
                  have hcz24_2 : wc.cell? ⟨gb220, 2, none⟩ = some (.bool false) := (blk_cell BK220.out 2).trans rfl
                  have hcz24_3 : wc.cell? ⟨gb220, 3, none⟩ = some (.bool false) := (blk_cell BK220.out 3).trans rfl
                  have hfz24_0 := blk_frozen BK220.out 0
                  have hfz24_1 := blk_frozen BK220.out 1
                  have hfz24_2 := blk_frozen BK220.out 2
                  have hfz24_3 := blk_frozen BK220.out 3
                  go_wp2
                  go_meet
                  case rel => exact ⟨_, (wrap64 (1 + 1)), (true), (by first | rfl | (simp; done) | (simp [*]; done) | (simp; exact (IntWalk.wrap64_in _ (by decide)).symm)), H', ⟨by have := HJ1.out; have := HJ15.out; first | omega | exact Nat.le_refl _⟩, ⟨by (with_reducible repeat (first | refine blk_drewN ?_ _ | refine blk_drew ?_ | refine blk_alloc ?_ _)); refine blk_far ?_ NB219_220.out _; (with_reducible repeat (first | refine blk_drewN ?_ _ | refine blk_drew ?_ | refine blk_alloc ?_ _)); exact BK219.out⟩, ⟨by (with_reducible repeat (first | refine blk_drewN ?_ _ | refine blk_drew ?_ | refine blk_alloc ?_ _)); refine blk_put (cs := #[.bool ((bt a0 0) == 101), .bool false, .bool false, .bool false]) ?_ 1 _ rfl; (with_reducible repeat (first | refine blk_drewN ?_ _ | refine blk_drew ?_ | refine blk_alloc ?_ _)); exact BK220.out⟩, ⟨by repeat (first | (with_reducible first | exact HB.out | apply below_alloc | apply pw_below_drewN | apply below_drew1 | refine below_set ?_ GE219.out | refine below_set ?_ GE220.out) | exact HB.out)⟩⟩
                · replace c22 := Bool.eq_false_iff.mpr c22
                  subst c22
                  have H1 : (crierref07_Parse.j2 kj15 a0 1 ((bt a0 0) == 101) false false false) = some (r1, r2, r3, r4, r5) := by rw [if_neg (show ¬ (false = true) by decide)] at H; exact H
                  clear H
                  have H := H1
                  clear H1
                  have H' := Aside0.mk H
                  clear H
                  go_wp2
                  go_meet
                  case rel => exact ⟨_, (1), (false), (by first | rfl | (simp; done) | (simp [*]; done) | (simp; exact (IntWalk.wrap64_in _ (by decide)).symm)), H', ⟨by have := HJ1.out; have := HJ15.out; first | omega | exact Nat.le_refl _⟩, ⟨by (with_reducible repeat (first | refine blk_drewN ?_ _ | refine blk_drew ?_ | refine blk_alloc ?_ _)); exact BK219.out⟩, ⟨by (with_reducible repeat (first | refine blk_drewN ?_ _ | refine blk_drew ?_ | refine blk_alloc ?_ _)); exact BK220.out⟩, ⟨by repeat (first | (with_reducible first | exact HB.out | apply below_alloc | apply pw_below_drewN | apply below_drew1 | refine below_set ?_ GE219.out | refine below_set ?_ GE220.out) | exact HB.out)⟩⟩
              case rest =>
                clear HC21
                try clear c1
                try clear p1
                try clear q1
                try clear hx1
                try clear qi1
                try clear c2
                try clear p2
                try clear q2
                try clear hx2
                try clear qi2
                try clear c5
                try clear c5b0
                try clear c5b1
                try clear c6
                try clear c6b0
                try clear c6b1
                try clear p6
                try clear p7
                try clear q7
                try clear hx7
                try clear qi7
                try clear c8
                try clear c8b0
                try clear c8b1
                try clear p9
                try clear q9
                try clear hx9
                try clear qi9
                try clear c10
                try clear c11
                try clear c14
                try clear c14b0
                try clear c14b1
                try clear p15
                try clear q15
                try clear hx15
                try clear qi15
                try clear c16
                try clear c17
                try clear c19
                try clear c19b0
                try clear c19b1
                try clear p20
                try clear q20
                try clear hx20
                try clear qi20
                try clear c22
                try clear c23
                try clear hcz12_0
                try clear hcz12_1
                try clear hcz12_2
                try clear hcz12_3
                try clear hcz13_0
                try clear hcz13_1
                try clear hcz13_2
                try clear hcz13_3
                try clear hcz18_0
                try clear hcz18_1
                try clear hcz18_2
                try clear hcz18_3
                try clear hcz24_0
                try clear hcz24_1
                try clear hcz24_2
                try clear hcz24_3
                try clear hfz12_0
                try clear hfz12_1
                try clear hfz12_2
                try clear hfz12_3
                try clear hfz13_0
                try clear hfz13_1
                try clear hfz13_2
                try clear hfz13_3
                try clear hfz18_0
                try clear hfz18_1
                try clear hfz18_2
                try clear hfz18_3
                try clear hfz24_0
                try clear hfz24_1
                try clear hfz24_2
                try clear hfz24_3
                try clear p1
                try clear p15
                try clear p2
                try clear p20
                try clear p7
                try clear p9
                try clear q1
                try clear q15
                try clear q2
                try clear q20
                try clear q7
                try clear q9
                obtain ⟨kq, x5_20, x221001_20, rfl, HA, HJ20, BK219, BK220, HB⟩ := hcut
                cases kq with
                | zero => exact absurd HA.out (by simp [crierref07_Parse.j2])
                | succ kj20 =>
                  have H := HA.out
                  clear HA
                  simp only [crierref07_Parse.j2] at H
                  have HC25 := Aside0.mk H
                  clear H
                  go_upto_region 9 with (fail)
                  go_cut [45] (fun v45 wc => ∃ (kq : Nat) (x45_24 : Bool), v45 = .bool x45_24 ∧ Aside0 (crierref07_Parse.j3 kq a0 x5_20 x45_24 ((bt a0 0) == 101) x221001_20 false false = some (r1, r2, r3, r4, r5)) ∧ Aside0 (kq ≤ kj20) ∧ Aside0 (wc.heap[gb219]? = some (.cells #[.bool false, .bool false, .bool false, .bool false] 23 (0, 0))) ∧ Aside0 (wc.heap[gb220]? = some (.cells #[.bool ((bt a0 0) == 101), .bool x221001_20, .bool false, .bool false] 23 (0, 0))) ∧ Aside0 (Below w.heap.size w wc))
                  case first =>
                    have H := HC25.out
                    clear HC25
                    by_cases c26 : x5_20 < (a0.size : Int)
                    · rw [if_pos c26] at H
                      have c26b0 : decide (x5_20 < (a0.size : Int)) = true := decide_eq_true c26
                      clear c26
                      (first | rw [c26b0] | (simp only [i64_w, i32_w]; rw [c26b0]) | skip)
                      by_cases c27 : 0 ≤ x5_20
                      · rw [if_pos c27] at H
                        have c27b0 : decide (0 ≤ x5_20) = true := decide_eq_true c27
                        clear c27
                        have H' := Aside0.mk H
                        clear H
                        have p28 : 0 ≤ (x5_20 : Int) := of_decide_eq_true (by first | (with_reducible assumption) | assumption)
                        have q28 : x5_20 < (a0.size : Int) := of_decide_eq_true (by first | (with_reducible assumption) | assumption)
                        have hx28 := bt_at a0 x5_20
                        replace p28 := eq_true p28
                        replace q28 := eq_true q28
                        go_wp2
                        go_meet
                        case rel => exact ⟨_, (((bt a0 x5_20) == 119)), (by first | rfl | (simp; done) | (simp [*]; done) | (simp; exact (IntWalk.wrap64_in _ (by decide)).symm)), H', ⟨by have := HJ1.out; have := HJ15.out; have := HJ20.out; first | omega | exact Nat.le_refl _⟩, ⟨by (with_reducible repeat (first | refine blk_drewN ?_ _ | refine blk_drew ?_ | refine blk_alloc ?_ _)); exact BK219.out⟩, ⟨by (with_reducible repeat (first | refine blk_drewN ?_ _ | refine blk_drew ?_ | refine blk_alloc ?_ _)); exact BK220.out⟩, ⟨by repeat (first | (with_reducible first | exact HB.out | apply below_alloc | apply pw_below_drewN | apply below_drew1 | refine below_set ?_ GE219.out | refine below_set ?_ GE220.out) | exact HB.out)⟩⟩
                      · rw [if_neg c27] at H
                        exact absurd H (by simp)
                    · rw [if_neg c26] at H
                      have c26b0 : decide (x5_20 < (a0.size : Int)) = false := decide_eq_false c26
                      clear c26
                      (first | rw [c26b0] | (simp only [i64_w, i32_w]; rw [c26b0]) | skip)
                      have H' := Aside0.mk H
                      clear H
                      go_wp2
                      go_meet
                      case rel => exact ⟨_, (false), (by first | rfl | (simp; done) | (simp [*]; done) | (simp; exact (IntWalk.wrap64_in _ (by decide)).symm)), H', ⟨by have := HJ1.out; have := HJ15.out; have := HJ20.out; first | omega | exact Nat.le_refl _⟩, ⟨by (with_reducible repeat (first | refine blk_drewN ?_ _ | refine blk_drew ?_ | refine blk_alloc ?_ _)); exact BK219.out⟩, ⟨by (with_reducible repeat (first | refine blk_drewN ?_ _ | refine blk_drew ?_ | refine blk_alloc ?_ _)); exact BK220.out⟩, ⟨by repeat (first | (with_reducible first | exact HB.out | apply below_alloc | apply pw_below_drewN | apply below_drew1 | refine below_set ?_ GE219.out | refine below_set ?_ GE220.out) | exact HB.out)⟩⟩
                  case rest =>
                    clear HC25
                    try clear c1
                    try clear p1
                    try clear q1
                    try clear hx1
                    try clear qi1
                    try clear c2
                    try clear p2
                    try clear q2
                    try clear hx2
                    try clear qi2
                    try clear c5
                    try clear c5b0
                    try clear c5b1
                    try clear c6
                    try clear c6b0
                    try clear c6b1
                    try clear p6
                    try clear p7
                    try clear q7
                    try clear hx7
                    try clear qi7
                    try clear c8
                    try clear c8b0
                    try clear c8b1
                    try clear p9
                    try clear q9
                    try clear hx9
                    try clear qi9
                    try clear c10
                    try clear c11
                    try clear c14
                    try clear c14b0
                    try clear c14b1
                    try clear p15
                    try clear q15
                    try clear hx15
                    try clear qi15
                    try clear c16
                    try clear c17
                    try clear c19
                    try clear c19b0
                    try clear c19b1
                    try clear p20
                    try clear q20
                    try clear hx20
                    try clear qi20
                    try clear c22
                    try clear c23
                    try clear c26
                    try clear c26b0
                    try clear c27
                    try clear c27b0
                    try clear p28
                    try clear q28
                    try clear hx28
                    try clear hcz12_0
                    try clear hcz12_1
                    try clear hcz12_2
                    try clear hcz12_3
                    try clear hcz13_0
                    try clear hcz13_1
                    try clear hcz13_2
                    try clear hcz13_3
                    try clear hcz18_0
                    try clear hcz18_1
                    try clear hcz18_2
                    try clear hcz18_3
                    try clear hcz24_0
                    try clear hcz24_1
                    try clear hcz24_2
                    try clear hcz24_3
                    try clear hfz12_0
                    try clear hfz12_1
                    try clear hfz12_2
                    try clear hfz12_3
                    try clear hfz13_0
                    try clear hfz13_1
                    try clear hfz13_2
                    try clear hfz13_3
                    try clear hfz18_0
                    try clear hfz18_1
                    try clear hfz18_2
                    try clear hfz18_3
                    try clear hfz24_0
                    try clear hfz24_1
                    try clear hfz24_2
                    try clear hfz24_3
                    try clear p1
                    try clear p15
                    try clear p2
                    try clear p20
                    try clear p28
                    try clear p6
                    try clear p7
                    try clear p9
                    try clear q1
                    try clear q15
                    try clear q2
                    try clear q20
                    try clear q28
                    try clear q7
                    try clear q9
                    obtain ⟨kq, x45_24, rfl, HA, HJ24, BK219, BK220, HB⟩ := hcut
                    cases kq with
                    | zero => exact absurd HA.out (by simp [crierref07_Parse.j3])
                    | succ kj24 =>
                      have H := HA.out
                      clear HA
                      simp only [crierref07_Parse.j3] at H
                      have HC29 := Aside0.mk H
                      clear H
                      go_upto_if 45 with (fail)
                      go_cut [5] (fun v5 wc => ∃ (kq : Nat) (x5_28 : Int) (x221002_28 : Bool), v5 = .int .i64 x5_28 ∧ Aside0 (crierref07_Parse.j4 kq a0 x5_28 ((bt a0 0) == 101) x221001_20 x221002_28 false = some (r1, r2, r3, r4, r5)) ∧ Aside0 (kq ≤ kj24) ∧ Aside0 (wc.heap[gb219]? = some (.cells #[.bool false, .bool false, .bool false, .bool false] 23 (0, 0))) ∧ Aside0 (wc.heap[gb220]? = some (.cells #[.bool ((bt a0 0) == 101), .bool x221001_20, .bool x221002_28, .bool false] 23 (0, 0))) ∧ Aside0 (Below w.heap.size w wc))
                      case first =>
                        have H := HC29.out
                        clear HC29
                        by_cases c30 : x45_24 = true
                        · subst c30
                          have H1 : (crierref07_Parse.j4 kj24 a0 (wrap64 (x5_20 + 1)) ((bt a0 0) == 101) x221001_20 true false) = some (r1, r2, r3, r4, r5) := by first | (rw [if_pos rfl] at H; exact H) | (rw [if_pos trivial] at H; exact H)
                          clear H
                          have H := H1
                          clear H1
                          have H' := Aside0.mk H
                          clear H
                          have hnb31 := NB220_219.out
                          have hnc31 := NB219_220.out
                          have hcz32_0 : wc.cell? ⟨gb220, 0, none⟩ = some (.bool ((bt a0 0) == 101)) := (blk_cell BK220.out 0).trans rfl
                          have hcz32_1 : wc.cell? ⟨gb220, 1, none⟩ = some (.bool x221001_20) := (blk_cell BK220.out 1).trans rfl
                          have hcz32_2 : wc.cell? ⟨gb220, 2, none⟩ = some (.bool false) := (blk_cell BK220.out 2).trans rfl
                          have hcz32_3 : wc.cell? ⟨gb220, 3, none⟩ = some (.bool false) := (blk_cell BK220.out 3).trans rfl
                          have hfz32_0 := blk_frozen BK220.out 0
                          have hfz32_1 := blk_frozen BK220.out 1
                          have hfz32_2 := blk_frozen BK220.out 2
                          have hfz32_3 := blk_frozen BK220.out 3
                          go_wp2
                          go_meet
                          case rel => exact ⟨_, (wrap64 (x5_20 + 1)), (true), (by first | rfl | (simp; done) | (simp [*]; done) | (simp; exact (IntWalk.wrap64_in _ (by decide)).symm)), H', ⟨by have := HJ1.out; have := HJ15.out; have := HJ20.out; have := HJ24.out; first | omega | exact Nat.le_refl _⟩, ⟨by (with_reducible repeat (first | refine blk_drewN ?_ _ | refine blk_drew ?_ | refine blk_alloc ?_ _)); refine blk_far ?_ NB219_220.out _; (with_reducible repeat (first | refine blk_drewN ?_ _ | refine blk_drew ?_ | refine blk_alloc ?_ _)); exact BK219.out⟩, ⟨by (with_reducible repeat (first | refine blk_drewN ?_ _ | refine blk_drew ?_ | refine blk_alloc ?_ _)); refine blk_put (cs := #[.bool ((bt a0 0) == 101), .bool x221001_20, .bool false, .bool false]) ?_ 2 _ rfl; (with_reducible repeat (first | refine blk_drewN ?_ _ | refine blk_drew ?_ | refine blk_alloc ?_ _)); exact BK220.out⟩, ⟨by repeat (first | (with_reducible first | exact HB.out | apply below_alloc | apply pw_below_drewN | apply below_drew1 | refine below_set ?_ GE219.out | refine below_set ?_ GE220.out) | exact HB.out)⟩⟩
                        · replace c30 := Bool.eq_false_iff.mpr c30
                          subst c30
                          have H1 : (crierref07_Parse.j4 kj24 a0 x5_20 ((bt a0 0) == 101) x221001_20 false false) = some (r1, r2, r3, r4, r5) := by rw [if_neg (show ¬ (false = true) by decide)] at H; exact H
                          clear H
                          have H := H1
                          clear H1
                          have H' := Aside0.mk H
                          clear H
                          go_wp2
                          go_meet
                          case rel => exact ⟨_, (x5_20), (false), (by first | rfl | (simp; done) | (simp [*]; done) | (simp; exact (IntWalk.wrap64_in _ (by decide)).symm)), H', ⟨by have := HJ1.out; have := HJ15.out; have := HJ20.out; have := HJ24.out; first | omega | exact Nat.le_refl _⟩, ⟨by (with_reducible repeat (first | refine blk_drewN ?_ _ | refine blk_drew ?_ | refine blk_alloc ?_ _)); exact BK219.out⟩, ⟨by (with_reducible repeat (first | refine blk_drewN ?_ _ | refine blk_drew ?_ | refine blk_alloc ?_ _)); exact BK220.out⟩, ⟨by repeat (first | (with_reducible first | exact HB.out | apply below_alloc | apply pw_below_drewN | apply below_drew1 | refine below_set ?_ GE219.out | refine below_set ?_ GE220.out) | exact HB.out)⟩⟩
                      case rest =>
                        clear HC29
                        try clear c1
                        try clear p1
                        try clear q1
                        try clear hx1
                        try clear qi1
                        try clear c2
                        try clear p2
                        try clear q2
                        try clear hx2
                        try clear qi2
                        try clear c3
                        try clear c5
                        try clear c5b0
                        try clear c5b1
                        try clear c6
                        try clear c6b0
                        try clear c6b1
                        try clear p6
                        try clear p7
                        try clear q7
                        try clear hx7
                        try clear qi7
                        try clear c8
                        try clear c8b0
                        try clear c8b1
                        try clear p9
                        try clear q9
                        try clear hx9
                        try clear qi9
                        try clear c10
                        try clear c11
                        try clear c14
                        try clear c14b0
                        try clear c14b1
                        try clear p15
                        try clear q15
                        try clear hx15
                        try clear qi15
                        try clear c16
                        try clear c17
                        try clear c19
                        try clear c19b0
                        try clear c19b1
                        try clear p20
                        try clear q20
                        try clear hx20
                        try clear qi20
                        try clear c22
                        try clear c23
                        try clear c26
                        try clear c26b0
                        try clear c27
                        try clear c27b0
                        try clear p28
                        try clear q28
                        try clear hx28
                        try clear c30
                        try clear c31
                        try clear hcz12_0
                        try clear hcz12_1
                        try clear hcz12_2
                        try clear hcz12_3
                        try clear hcz13_0
                        try clear hcz13_1
                        try clear hcz13_2
                        try clear hcz13_3
                        try clear hcz18_0
                        try clear hcz18_1
                        try clear hcz18_2
                        try clear hcz18_3
                        try clear hcz24_0
                        try clear hcz24_1
                        try clear hcz24_2
                        try clear hcz24_3
                        try clear hcz32_0
                        try clear hcz32_1
                        try clear hcz32_2
                        try clear hcz32_3
                        try clear hfz12_0
                        try clear hfz12_1
                        try clear hfz12_2
                        try clear hfz12_3
                        try clear hfz13_0
                        try clear hfz13_1
                        try clear hfz13_2
                        try clear hfz13_3
                        try clear hfz18_0
                        try clear hfz18_1
                        try clear hfz18_2
                        try clear hfz18_3
                        try clear hfz24_0
                        try clear hfz24_1
                        try clear hfz24_2
                        try clear hfz24_3
                        try clear hfz32_0
                        try clear hfz32_1
                        try clear hfz32_2
                        try clear hfz32_3
                        try clear p1
                        try clear p15
                        try clear p2
                        try clear p20
                        try clear p28
                        try clear p6
                        try clear p7
                        try clear p9
                        try clear q1
                        try clear q15
                        try clear q2
                        try clear q20
                        try clear q28
                        try clear q7
                        try clear q9
                        obtain ⟨kq, x5_28, x221002_28, rfl, HA, HJ28, BK219, BK220, HB⟩ := hcut
                        cases kq with
                        | zero => exact absurd HA.out (by simp [crierref07_Parse.j4])
                        | succ kj28 =>
                          have H := HA.out
                          clear HA
                          simp only [crierref07_Parse.j4] at H
                          have HC33 := Aside0.mk H
                          clear H
                          go_upto_region 12 with (fail)
                          go_cut [58] (fun v58 wc => ∃ (kq : Nat) (x58_32 : Bool), v58 = .bool x58_32 ∧ Aside0 (crierref07_Parse.j5 kq a0 x5_28 x58_32 ((bt a0 0) == 101) x221001_20 x221002_28 false = some (r1, r2, r3, r4, r5)) ∧ Aside0 (kq ≤ kj28) ∧ Aside0 (wc.heap[gb219]? = some (.cells #[.bool false, .bool false, .bool false, .bool false] 23 (0, 0))) ∧ Aside0 (wc.heap[gb220]? = some (.cells #[.bool ((bt a0 0) == 101), .bool x221001_20, .bool x221002_28, .bool false] 23 (0, 0))) ∧ Aside0 (Below w.heap.size w wc))
                          case first =>
                            have H := HC33.out
                            clear HC33
                            by_cases c34 : x5_28 < (a0.size : Int)
                            · rw [if_pos c34] at H
                              have c34b0 : decide (x5_28 < (a0.size : Int)) = true := decide_eq_true c34
                              clear c34
                              (first | rw [c34b0] | (simp only [i64_w, i32_w]; rw [c34b0]) | skip)
                              by_cases c35 : 0 ≤ x5_28
                              · rw [if_pos c35] at H
                                have c35b0 : decide (0 ≤ x5_28) = true := decide_eq_true c35
                                clear c35
                                have H' := Aside0.mk H
                                clear H
                                have p36 : 0 ≤ (x5_28 : Int) := of_decide_eq_true (by first | (with_reducible assumption) | assumption)
                                have q36 : x5_28 < (a0.size : Int) := of_decide_eq_true (by first | (with_reducible assumption) | assumption)
                                have hx36 := bt_at a0 x5_28
                                replace p36 := eq_true p36
                                replace q36 := eq_true q36
                                go_wp2
                                go_meet
                                case rel => exact ⟨_, (((bt a0 x5_28) == 97)), (by first | rfl | (simp; done) | (simp [*]; done) | (simp; exact (IntWalk.wrap64_in _ (by decide)).symm)), H', ⟨by have := HJ1.out; have := HJ15.out; have := HJ20.out; have := HJ24.out; have := HJ28.out; first | omega | exact Nat.le_refl _⟩, ⟨by (with_reducible repeat (first | refine blk_drewN ?_ _ | refine blk_drew ?_ | refine blk_alloc ?_ _)); exact BK219.out⟩, ⟨by (with_reducible repeat (first | refine blk_drewN ?_ _ | refine blk_drew ?_ | refine blk_alloc ?_ _)); exact BK220.out⟩, ⟨by repeat (first | (with_reducible first | exact HB.out | apply below_alloc | apply pw_below_drewN | apply below_drew1 | refine below_set ?_ GE219.out | refine below_set ?_ GE220.out) | exact HB.out)⟩⟩
                              · rw [if_neg c35] at H
                                exact absurd H (by simp)
                            · rw [if_neg c34] at H
                              have c34b0 : decide (x5_28 < (a0.size : Int)) = false := decide_eq_false c34
                              clear c34
                              (first | rw [c34b0] | (simp only [i64_w, i32_w]; rw [c34b0]) | skip)
                              have H' := Aside0.mk H
                              clear H
                              go_wp2
                              go_meet
                              case rel => exact ⟨_, (false), (by first | rfl | (simp; done) | (simp [*]; done) | (simp; exact (IntWalk.wrap64_in _ (by decide)).symm)), H', ⟨by have := HJ1.out; have := HJ15.out; have := HJ20.out; have := HJ24.out; have := HJ28.out; first | omega | exact Nat.le_refl _⟩, ⟨by (with_reducible repeat (first | refine blk_drewN ?_ _ | refine blk_drew ?_ | refine blk_alloc ?_ _)); exact BK219.out⟩, ⟨by (with_reducible repeat (first | refine blk_drewN ?_ _ | refine blk_drew ?_ | refine blk_alloc ?_ _)); exact BK220.out⟩, ⟨by repeat (first | (with_reducible first | exact HB.out | apply below_alloc | apply pw_below_drewN | apply below_drew1 | refine below_set ?_ GE219.out | refine below_set ?_ GE220.out) | exact HB.out)⟩⟩
                          case rest =>
                            clear HC33
                            try clear c1
                            try clear p1
                            try clear q1
                            try clear hx1
                            try clear qi1
                            try clear c2
                            try clear p2
                            try clear q2
                            try clear hx2
                            try clear qi2
                            try clear c3
                            try clear p3
                            try clear q3
                            try clear hx3
                            try clear c5
                            try clear c5b0
                            try clear c5b1
                            try clear c6
                            try clear c6b0
                            try clear c6b1
                            try clear p6
                            try clear p7
                            try clear q7
                            try clear hx7
                            try clear qi7
                            try clear c8
                            try clear c8b0
                            try clear c8b1
                            try clear p9
                            try clear q9
                            try clear hx9
                            try clear qi9
                            try clear c10
                            try clear c11
                            try clear c14
                            try clear c14b0
                            try clear c14b1
                            try clear p15
                            try clear q15
                            try clear hx15
                            try clear qi15
                            try clear c16
                            try clear c17
                            try clear c19
                            try clear c19b0
                            try clear c19b1
                            try clear p20
                            try clear q20
                            try clear hx20
                            try clear qi20
                            try clear c22
                            try clear c23
                            try clear c26
                            try clear c26b0
                            try clear c27
                            try clear c27b0
                            try clear p28
                            try clear q28
                            try clear hx28
                            try clear c30
                            try clear c31
                            try clear c34
                            try clear c34b0
                            try clear c35
                            try clear c35b0
                            try clear p36
                            try clear q36
                            try clear hx36
                            try clear hcz12_0
                            try clear hcz12_1
                            try clear hcz12_2
                            try clear hcz12_3
                            try clear hcz13_0
                            try clear hcz13_1
                            try clear hcz13_2
                            try clear hcz13_3
                            try clear hcz18_0
                            try clear hcz18_1
                            try clear hcz18_2
                            try clear hcz18_3
                            try clear hcz24_0
                            try clear hcz24_1
                            try clear hcz24_2
                            try clear hcz24_3
                            try clear hcz32_0
                            try clear hcz32_1
                            try clear hcz32_2
                            try clear hcz32_3
                            try clear hfz12_0
                            try clear hfz12_1
                            try clear hfz12_2
                            try clear hfz12_3
                            try clear hfz13_0
                            try clear hfz13_1
                            try clear hfz13_2
                            try clear hfz13_3
                            try clear hfz18_0
                            try clear hfz18_1
                            try clear hfz18_2
                            try clear hfz18_3
                            try clear hfz24_0
                            try clear hfz24_1
                            try clear hfz24_2
                            try clear hfz24_3
                            try clear hfz32_0
                            try clear hfz32_1
                            try clear hfz32_2
                            try clear hfz32_3
                            try clear p1
                            try clear p15
                            try clear p2
                            try clear p20
                            try clear p28
                            try clear p36
                            try clear p6
                            try clear p7
                            try clear p9
                            try clear q1
                            try clear q15
                            try clear q2
                            try clear q20
                            try clear q28
                            try clear q36
                            try clear q7
                            try clear q9
                            obtain ⟨kq, x58_32, rfl, HA, HJ32, BK219, BK220, HB⟩ := hcut
                            cases kq with
                            | zero => exact absurd HA.out (by simp [crierref07_Parse.j5])
                            | succ kj32 =>
                              have H := HA.out
                              clear HA
                              simp only [crierref07_Parse.j5] at H
                              by_cases c37 : x58_32 = true
                              · subst c37
                                have H1 : (if (wrap64 (x5_28 + 1)) = (a0.size : Int) then (some (((bt a0 0) == 101), x221001_20, x221002_28, true, true)) else (some (false, false, false, false, false))) = some (r1, r2, r3, r4, r5) := by first | (rw [if_pos rfl] at H; exact H) | (rw [if_pos trivial] at H; exact H)
                                clear H
                                have H := H1
                                clear H1
                                by_cases c38 : (wrap64 (x5_28 + 1)) = (a0.size : Int)
                                · rw [if_pos c38] at H
                                  have c38b0 : ((wrap64 (x5_28 + 1)) == (a0.size : Int)) = true := beq_iff_eq.mpr c38
                                  have c38b1 : ((wrap64 (x5_28 + 1)) != (a0.size : Int)) = false := bne_eq_false_iff_eq.mpr c38
                                  clear c38
                                  simp only [Option.some.injEq, Prod.mk.injEq] at H
                                  obtain ⟨rfl, rfl, rfl, rfl, rfl⟩ := H
                                  have hnb39 := NB220_219.out
                                  have hnc39 := NB219_220.out
                                  have hcz40_0 : wc.cell? ⟨gb220, 0, none⟩ = some (.bool ((bt a0 0) == 101)) := (blk_cell BK220.out 0).trans rfl
                                  have hcz40_1 : wc.cell? ⟨gb220, 1, none⟩ = some (.bool x221001_20) := (blk_cell BK220.out 1).trans rfl
                                  have hcz40_2 : wc.cell? ⟨gb220, 2, none⟩ = some (.bool x221002_28) := (blk_cell BK220.out 2).trans rfl
                                  have hcz40_3 : wc.cell? ⟨gb220, 3, none⟩ = some (.bool false) := (blk_cell BK220.out 3).trans rfl
                                  have hfz40_0 := blk_frozen BK220.out 0
                                  have hfz40_1 := blk_frozen BK220.out 1
                                  have hfz40_2 := blk_frozen BK220.out 2
                                  have hfz40_3 := blk_frozen BK220.out 3
                                  have hcz41_0 : wc.cell? ⟨gb219, 0, none⟩ = some (.bool false) := (blk_cell BK219.out 0).trans rfl
                                  have hcz41_1 : wc.cell? ⟨gb219, 1, none⟩ = some (.bool false) := (blk_cell BK219.out 1).trans rfl
                                  have hcz41_2 : wc.cell? ⟨gb219, 2, none⟩ = some (.bool false) := (blk_cell BK219.out 2).trans rfl
                                  have hcz41_3 : wc.cell? ⟨gb219, 3, none⟩ = some (.bool false) := (blk_cell BK219.out 3).trans rfl
                                  have hfz41_0 := blk_frozen BK219.out 0
                                  have hfz41_1 := blk_frozen BK219.out 1
                                  have hfz41_2 := blk_frozen BK219.out 2
                                  have hfz41_3 := blk_frozen BK219.out 3
                                  go_wp2
                                  refine bodyPost_ret (results_ct rfl _ _ gb219 23 #[.bool ((bt a0 0) == 101), .bool x221001_20, .bool x221002_28, .bool true] (0, 0) _ rfl (by (with_reducible repeat (first | refine blk_drewN ?_ _ | refine blk_drew ?_ | refine blk_alloc ?_ _)); refine blk_put (cs := #[.bool ((bt a0 0) == 101), .bool x221001_20, .bool x221002_28, .bool false]) ?_ 3 _ rfl; (with_reducible repeat (first | refine blk_drewN ?_ _ | refine blk_drew ?_ | refine blk_alloc ?_ _)); refine blk_put (cs := #[.bool ((bt a0 0) == 101), .bool x221001_20, .bool false, .bool false]) ?_ 2 _ rfl; (with_reducible repeat (first | refine blk_drewN ?_ _ | refine blk_drew ?_ | refine blk_alloc ?_ _)); refine blk_put (cs := #[.bool ((bt a0 0) == 101), .bool false, .bool false, .bool false]) ?_ 1 _ rfl; (with_reducible repeat (first | refine blk_drewN ?_ _ | refine blk_drew ?_ | refine blk_alloc ?_ _)); refine blk_put (cs := #[.bool false, .bool false, .bool false, .bool false]) ?_ 0 _ rfl; (with_reducible repeat (first | refine blk_drewN ?_ _ | refine blk_drew ?_ | refine blk_alloc ?_ _)); refine blk_far ?_ NB219_220.out _; (with_reducible repeat (first | refine blk_drewN ?_ _ | refine blk_drew ?_ | refine blk_alloc ?_ _)); exact BK219.out) Try.underlying23 rfl (by kernel_rfl)) rfl ?_
                                  exact ⟨by first | rfl | (simp [errW_none, errW_some] <;> rfl) | (simp [*, errW_none, errW_some] <;> rfl), by repeat (first | (with_reducible first | exact HB.out | apply below_alloc | apply pw_below_drewN | apply below_drew1 | refine below_set ?_ GE219.out | refine below_set ?_ GE220.out) | exact HB.out)⟩
                                · rw [if_neg c38] at H
                                  have c38b0 : ((wrap64 (x5_28 + 1)) == (a0.size : Int)) = false := beq_eq_false_iff_ne.mpr c38
                                  have c38b1 : ((wrap64 (x5_28 + 1)) != (a0.size : Int)) = true := bne_iff_ne.mpr c38
                                  simp only [Option.some.injEq, Prod.mk.injEq] at H
                                  obtain ⟨rfl, rfl, rfl, rfl, rfl⟩ := H
                                  have hnb42 := NB220_219.out
                                  have hnc42 := NB219_220.out
                                  have hcz43_0 : wc.cell? ⟨gb220, 0, none⟩ = some (.bool ((bt a0 0) == 101)) := (blk_cell BK220.out 0).trans rfl
                                  have hcz43_1 : wc.cell? ⟨gb220, 1, none⟩ = some (.bool x221001_20) := (blk_cell BK220.out 1).trans rfl
                                  have hcz43_2 : wc.cell? ⟨gb220, 2, none⟩ = some (.bool x221002_28) := (blk_cell BK220.out 2).trans rfl
                                  have hcz43_3 : wc.cell? ⟨gb220, 3, none⟩ = some (.bool false) := (blk_cell BK220.out 3).trans rfl
                                  have hfz43_0 := blk_frozen BK220.out 0
                                  have hfz43_1 := blk_frozen BK220.out 1
                                  have hfz43_2 := blk_frozen BK220.out 2
                                  have hfz43_3 := blk_frozen BK220.out 3
                                  have hcz44_0 : wc.cell? ⟨gb219, 0, none⟩ = some (.bool false) := (blk_cell BK219.out 0).trans rfl
                                  have hcz44_1 : wc.cell? ⟨gb219, 1, none⟩ = some (.bool false) := (blk_cell BK219.out 1).trans rfl
                                  have hcz44_2 : wc.cell? ⟨gb219, 2, none⟩ = some (.bool false) := (blk_cell BK219.out 2).trans rfl
                                  have hcz44_3 : wc.cell? ⟨gb219, 3, none⟩ = some (.bool false) := (blk_cell BK219.out 3).trans rfl
                                  have hfz44_0 := blk_frozen BK219.out 0
                                  have hfz44_1 := blk_frozen BK219.out 1
                                  have hfz44_2 := blk_frozen BK219.out 2
                                  have hfz44_3 := blk_frozen BK219.out 3
                                  go_wp2
                                  refine bodyPost_ret (results_ct rfl _ _ gb219 23 #[.bool false, .bool false, .bool false, .bool false] (0, 0) _ rfl (by (with_reducible repeat (first | refine blk_drewN ?_ _ | refine blk_drew ?_ | refine blk_alloc ?_ _)); refine blk_put (cs := #[.bool false, .bool false, .bool false, .bool false]) ?_ 3 _ rfl; (with_reducible repeat (first | refine blk_drewN ?_ _ | refine blk_drew ?_ | refine blk_alloc ?_ _)); refine blk_put (cs := #[.bool false, .bool false, .bool false, .bool false]) ?_ 2 _ rfl; (with_reducible repeat (first | refine blk_drewN ?_ _ | refine blk_drew ?_ | refine blk_alloc ?_ _)); refine blk_put (cs := #[.bool false, .bool false, .bool false, .bool false]) ?_ 1 _ rfl; (with_reducible repeat (first | refine blk_drewN ?_ _ | refine blk_drew ?_ | refine blk_alloc ?_ _)); refine blk_put (cs := #[.bool false, .bool false, .bool false, .bool false]) ?_ 0 _ rfl; (with_reducible repeat (first | refine blk_drewN ?_ _ | refine blk_drew ?_ | refine blk_alloc ?_ _)); refine blk_far ?_ NB219_220.out _; (with_reducible repeat (first | refine blk_drewN ?_ _ | refine blk_drew ?_ | refine blk_alloc ?_ _)); exact BK219.out) Try.underlying23 rfl (by kernel_rfl)) rfl ?_
                                  exact ⟨by first | rfl | (simp [errW_none, errW_some] <;> rfl) | (simp [*, errW_none, errW_some] <;> rfl), by repeat (first | (with_reducible first | exact HB.out | apply below_alloc | apply pw_below_drewN | apply below_drew1 | refine below_set ?_ GE219.out | refine below_set ?_ GE220.out) | exact HB.out)⟩
                              · replace c37 := Bool.eq_false_iff.mpr c37
                                subst c37
                                have H1 : (if x5_28 = (a0.size : Int) then (some (((bt a0 0) == 101), x221001_20, x221002_28, false, true)) else (some (false, false, false, false, false))) = some (r1, r2, r3, r4, r5) := by rw [if_neg (show ¬ (false = true) by decide)] at H; exact H
                                clear H
                                have H := H1
                                clear H1
                                by_cases c45 : x5_28 = (a0.size : Int)
                                · rw [if_pos c45] at H
                                  have c45b0 : (x5_28 == (a0.size : Int)) = true := beq_iff_eq.mpr c45
                                  have c45b1 : (x5_28 != (a0.size : Int)) = false := bne_eq_false_iff_eq.mpr c45
                                  clear c45
                                  simp only [Option.some.injEq, Prod.mk.injEq] at H
                                  obtain ⟨rfl, rfl, rfl, rfl, rfl⟩ := H
                                  have hnb46 := NB220_219.out
                                  have hnc46 := NB219_220.out
                                  have hcz47_0 : wc.cell? ⟨gb220, 0, none⟩ = some (.bool ((bt a0 0) == 101)) := (blk_cell BK220.out 0).trans rfl
                                  have hcz47_1 : wc.cell? ⟨gb220, 1, none⟩ = some (.bool x221001_20) := (blk_cell BK220.out 1).trans rfl
                                  have hcz47_2 : wc.cell? ⟨gb220, 2, none⟩ = some (.bool x221002_28) := (blk_cell BK220.out 2).trans rfl
                                  have hcz47_3 : wc.cell? ⟨gb220, 3, none⟩ = some (.bool false) := (blk_cell BK220.out 3).trans rfl
                                  have hfz47_0 := blk_frozen BK220.out 0
                                  have hfz47_1 := blk_frozen BK220.out 1
                                  have hfz47_2 := blk_frozen BK220.out 2
                                  have hfz47_3 := blk_frozen BK220.out 3
                                  have hcz48_0 : wc.cell? ⟨gb219, 0, none⟩ = some (.bool false) := (blk_cell BK219.out 0).trans rfl
                                  have hcz48_1 : wc.cell? ⟨gb219, 1, none⟩ = some (.bool false) := (blk_cell BK219.out 1).trans rfl
                                  have hcz48_2 : wc.cell? ⟨gb219, 2, none⟩ = some (.bool false) := (blk_cell BK219.out 2).trans rfl
                                  have hcz48_3 : wc.cell? ⟨gb219, 3, none⟩ = some (.bool false) := (blk_cell BK219.out 3).trans rfl
                                  have hfz48_0 := blk_frozen BK219.out 0
                                  have hfz48_1 := blk_frozen BK219.out 1
                                  have hfz48_2 := blk_frozen BK219.out 2
                                  have hfz48_3 := blk_frozen BK219.out 3
                                  go_wp2
                                  refine bodyPost_ret (results_ct rfl _ _ gb219 23 #[.bool ((bt a0 0) == 101), .bool x221001_20, .bool x221002_28, .bool false] (0, 0) _ rfl (by (with_reducible repeat (first | refine blk_drewN ?_ _ | refine blk_drew ?_ | refine blk_alloc ?_ _)); refine blk_put (cs := #[.bool ((bt a0 0) == 101), .bool x221001_20, .bool x221002_28, .bool false]) ?_ 3 _ rfl; (with_reducible repeat (first | refine blk_drewN ?_ _ | refine blk_drew ?_ | refine blk_alloc ?_ _)); refine blk_put (cs := #[.bool ((bt a0 0) == 101), .bool x221001_20, .bool false, .bool false]) ?_ 2 _ rfl; (with_reducible repeat (first | refine blk_drewN ?_ _ | refine blk_drew ?_ | refine blk_alloc ?_ _)); refine blk_put (cs := #[.bool ((bt a0 0) == 101), .bool false, .bool false, .bool false]) ?_ 1 _ rfl; (with_reducible repeat (first | refine blk_drewN ?_ _ | refine blk_drew ?_ | refine blk_alloc ?_ _)); refine blk_put (cs := #[.bool false, .bool false, .bool false, .bool false]) ?_ 0 _ rfl; (with_reducible repeat (first | refine blk_drewN ?_ _ | refine blk_drew ?_ | refine blk_alloc ?_ _)); exact BK219.out) Try.underlying23 rfl (by kernel_rfl)) rfl ?_
                                  exact ⟨by first | rfl | (simp [errW_none, errW_some] <;> rfl) | (simp [*, errW_none, errW_some] <;> rfl), by repeat (first | (with_reducible first | exact HB.out | apply below_alloc | apply pw_below_drewN | apply below_drew1 | refine below_set ?_ GE219.out | refine below_set ?_ GE220.out) | exact HB.out)⟩
                                · rw [if_neg c45] at H
                                  have c45b0 : (x5_28 == (a0.size : Int)) = false := beq_eq_false_iff_ne.mpr c45
                                  have c45b1 : (x5_28 != (a0.size : Int)) = true := bne_iff_ne.mpr c45
                                  simp only [Option.some.injEq, Prod.mk.injEq] at H
                                  obtain ⟨rfl, rfl, rfl, rfl, rfl⟩ := H
                                  have hnb49 := NB219_220.out
                                  have hnc49 := NB220_219.out
                                  have hcz50_0 : wc.cell? ⟨gb219, 0, none⟩ = some (.bool false) := (blk_cell BK219.out 0).trans rfl
                                  have hcz50_1 : wc.cell? ⟨gb219, 1, none⟩ = some (.bool false) := (blk_cell BK219.out 1).trans rfl
                                  have hcz50_2 : wc.cell? ⟨gb219, 2, none⟩ = some (.bool false) := (blk_cell BK219.out 2).trans rfl
                                  have hcz50_3 : wc.cell? ⟨gb219, 3, none⟩ = some (.bool false) := (blk_cell BK219.out 3).trans rfl
                                  have hfz50_0 := blk_frozen BK219.out 0
                                  have hfz50_1 := blk_frozen BK219.out 1
                                  have hfz50_2 := blk_frozen BK219.out 2
                                  have hfz50_3 := blk_frozen BK219.out 3
                                  go_wp2
                                  refine bodyPost_ret (results_ct rfl _ _ gb219 23 #[.bool false, .bool false, .bool false, .bool false] (0, 0) _ rfl (by (with_reducible repeat (first | refine blk_drewN ?_ _ | refine blk_drew ?_ | refine blk_alloc ?_ _)); refine blk_put (cs := #[.bool false, .bool false, .bool false, .bool false]) ?_ 3 _ rfl; (with_reducible repeat (first | refine blk_drewN ?_ _ | refine blk_drew ?_ | refine blk_alloc ?_ _)); refine blk_put (cs := #[.bool false, .bool false, .bool false, .bool false]) ?_ 2 _ rfl; (with_reducible repeat (first | refine blk_drewN ?_ _ | refine blk_drew ?_ | refine blk_alloc ?_ _)); refine blk_put (cs := #[.bool false, .bool false, .bool false, .bool false]) ?_ 1 _ rfl; (with_reducible repeat (first | refine blk_drewN ?_ _ | refine blk_drew ?_ | refine blk_alloc ?_ _)); refine blk_put (cs := #[.bool false, .bool false, .bool false, .bool false]) ?_ 0 _ rfl; (with_reducible repeat (first | refine blk_drewN ?_ _ | refine blk_drew ?_ | refine blk_alloc ?_ _)); exact BK219.out) Try.underlying23 rfl (by kernel_rfl)) rfl ?_
                                  exact ⟨by first | rfl | (simp [errW_none, errW_some] <;> rfl) | (simp [*, errW_none, errW_some] <;> rfl), by repeat (first | (with_reducible first | exact HB.out | apply below_alloc | apply pw_below_drewN | apply below_drew1 | refine below_set ?_ GE219.out | refine below_set ?_ GE220.out) | exact HB.out)⟩
        · rw [if_neg c14] at H
          exact absurd H (by simp)

end Go.Proofs.Ytmioioaapikbkaa.IAll
