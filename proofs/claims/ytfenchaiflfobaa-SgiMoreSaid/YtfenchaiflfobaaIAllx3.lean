-- Written by the program wip/gen/inj.py of this repository, out of the translation, for this claim. Not trusted: Lean checks it.
import Derived.Test.YtfenchaiflfobaaIAllx0
namespace Go.Proofs.Ytfenchaiflfobaa.IAll
open Go.RowKit Go.Proofs.YtfenchaiflfobaaW.PrintWords Go.Proofs.YtfenchaiflfobaaW.PrintLast Go.Proofs.YtfenchaiflfobaaW.PrintMore
attribute [local go_sem] max2_int min2_int max_two min_two max_three min_three max_four min_four   -- for this text's walks alone
set_option linter.unusedVariables false
set_option linter.unusedSimpArgs false

/-! ### sgi_Whom: function 19 -/
def sgi_Whom.l0 : Nat → Int → List Int → Int → Int → Int → Bool → Int → Bool → Option (Int × Bool × Int × Bool × Int)
  | 0, _, _, _, _, _, _, _, _ => none
  | k + 1, x0, x11, x12, x13, x106000, x106001, x106002, x106003 => if x13 < x12 then (if 0 ≤ x13 then (if x13 < (x11.length : Int) then (if (rd x11 x13) < 0 then (some (0, false, 0, false, 130)) else (if (rd x11 x13) ≥ 8 then (some (0, false, 0, false, 130)) else (if 0 ≤ (rd x11 x13) then (sgi_Whom.l0 k x0 x11 x12 (wrap64 (x13 + 1)) x106000 x106001 (Go.bits .or .i64 x106002 (shl .i64 1 (rd x11 x13))) x106003) else (none)))) else (none)) else (none)) else (if x0 < 0 then (some (0, false, 0, false, 1)) else (if x0 > 15 then (some (0, false, 0, false, 1)) else (some (x106000, x106001, x106002, x106003, 0))))
def sgi_Whom.f (k : Nat) (a0 : Int) (l1 : List Int) : Option (Int × Bool × Int × Bool × Int) := sgi_Whom.l0 k a0 l1 (l1.length : Int) 0 a0 false 0 false
theorem sgi_Whom.mono_l : ∀ k, (∀ y0 y1 y2 y3 y4 y5 y6 y7, LeO (sgi_Whom.l0 k y0 y1 y2 y3 y4 y5 y6 y7) (sgi_Whom.l0 (k + 1) y0 y1 y2 y3 y4 y5 y6 y7))
  | 0 => fun _ _ _ _ _ _ _ _ r h => by simp [sgi_Whom.l0] at h
  | k + 1 => by
    have ih0 := sgi_Whom.mono_l k
    · intro y0 y1 y2 y3 y4 y5 y6 y7
      unfold sgi_Whom.l0
      repeat' first
      | (with_reducible exact ih0 _ _ _ _ _ _ _ _)
      | (with_reducible exact LeO.refl _)
      | (with_reducible exact LeO.none _)
      | (with_reducible refine LeO.ite ?_ ?_)
      | (with_reducible refine LeO.bind ?_ (fun _ => ?_))
      | exact ih0 _ _ _ _ _ _ _ _
      | exact LeO.none _
      | refine LeO.ite ?_ ?_
      | refine LeO.bind ?_ (fun _ => ?_)
theorem sgi_Whom.mono : ∀ a0 a1 k, LeO (sgi_Whom.f k a0 a1) (sgi_Whom.f (k + 1) a0 a1) := by
  intro a0 a1 k
  have ih0 := sgi_Whom.mono_l k
  unfold sgi_Whom.f
  repeat' first
      | (with_reducible exact ih0 _ _ _ _ _ _ _ _)
      | (with_reducible exact LeO.refl _)
      | (with_reducible exact LeO.none _)
      | (with_reducible refine LeO.ite ?_ ?_)
      | (with_reducible refine LeO.bind ?_ (fun _ => ?_))
      | exact ih0 _ _ _ _ _ _ _ _
      | exact LeO.none _
      | refine LeO.ite ?_ ?_
      | refine LeO.bind ?_ (fun _ => ?_)
set_option maxHeartbeats 8000000 in
set_option maxRecDepth 100000 in
theorem sgi_Whom.calls (k : Nat) (a0 : Int) (A1 : Option Addr) (c1 : Nat) (l1 : List Int) (r1 : Int) (r2 : Bool) (r3 : Int) (r4 : Bool) (r5 : Int) (w : World) (hr1 : Kd.C (Kd.int .i64) w A1 l1.length l1) (hc1 : l1.length ≤ c1) (h : sgi_Whom.f k a0 l1 = some (r1, r2, r3, r4, r5)) :
    Calls Try.prog 19 #[.int .i64 a0, .slice A1 l1.length c1] w fun e w' => e = .returned (.tuple #[.agg #[.int .i64 r1, .bool r2, .int .i64 r3, .bool r4], .int .i64 r5]) ∧ Below w.heap.size w w' := by
  have hu24 := Try.underlying24
  have HR1 := Aside0.mk hr1
  have HC1 := Aside0.mk hc1
  clear hr1 hc1
  have HB := Aside0.mk (Below.refl w.heap.size w)
  have H : (sgi_Whom.l0 k a0 l1 (l1.length : Int) 0 a0 false 0 false) = some (r1, r2, r3, r4, r5) := h
  clear h
  have H' := Aside0.mk H
  clear H
  go_enter Try.func19, Try.ntmps19
  go_wp2_with (first | ((with_reducible refine gate_dst (N := 4) rfl ?_); refine box_event ?hg (N := 4) ?hd (cs := #[.int .i64 0, .bool false, .int .i64 0, .bool false]) (t := 24) ?hr ?_; (case hd => rfl); (case hg => rfl); (case hr => first | (go_simp; done) | (go_simp; rfl)); intro gb104 hg w3 hbox hb; have n0_ := Aside0.mk (below_step (by repeat (first | (with_reducible first | exact HB.out | apply below_alloc | apply pw_below_drewN | apply below_drew1) | exact HB.out)) hb); have n1_ := Aside0.mk (hbox); have n2_ := Aside0.mk ((by rw [hg]; exact (below_size (by repeat (first | (with_reducible first | exact HB.out | apply below_alloc | apply pw_below_drewN | apply below_drew1) | exact HB.out))) : w.heap.size ≤ gb104)); have n3_ := Aside0.mk ((by rw [hg]; exact (below_size (by repeat (first | (with_reducible first | exact HB.out | apply below_alloc | apply pw_below_drewN | apply below_drew1) | exact HB.out))) : w.heap.size ≤ gb104)); clear HB; have HB := n0_; have BK104 := n1_; have GW104 := n2_; have GE104 := n3_; clear n0_ n1_ n2_ n3_; clear hb hbox hg) | ((with_reducible refine gate_dst (N := 6) rfl ?_); refine box_event ?hg (N := 6) ?hd (cs := #[.int .i64 0, .bool false, .int .i64 0, .bool false]) (t := 24) ?hr ?_; (case hd => rfl); (case hg => rfl); (case hr => first | (go_simp; done) | (go_simp; rfl)); intro gb105 hg w4 hbox hb; have n0_ := Aside0.mk (blk_below (g := gb104) (o := .cells #[.int .i64 0, .bool false, .int .i64 0, .bool false] 24 (0, 0)) (by (with_reducible repeat (first | refine blk_drewN ?_ _ | refine blk_drew ?_ | refine blk_alloc ?_ _)); exact BK104.out) hb); have n1_ := Aside0.mk (below_step (by repeat (first | (with_reducible first | exact HB.out | apply below_alloc | apply pw_below_drewN | apply below_drew1 | refine below_set ?_ GE104.out) | exact HB.out)) hb); have n2_ := Aside0.mk (hbox); have n3_ := Aside0.mk ((by rw [hg]; exact (below_size (by repeat (first | (with_reducible first | exact HB.out | apply below_alloc | apply pw_below_drewN | apply below_drew1 | refine below_set ?_ GE104.out) | exact HB.out))) : w.heap.size ≤ gb105)); have n4_ := Aside0.mk ((by rw [hg]; exact (below_size (by repeat (first | (with_reducible first | exact HB.out | apply below_alloc | apply pw_below_drewN | apply below_drew1 | refine below_set ?_ GE104.out) | exact HB.out))) : w.heap.size ≤ gb105)); have n5_ := Aside0.mk ((by rw [hg]; exact Nat.ne_of_lt (blk_lt (g := gb104) (o := .cells #[.int .i64 0, .bool false, .int .i64 0, .bool false] 24 (0, 0)) (by (with_reducible repeat (first | refine blk_drewN ?_ _ | refine blk_drew ?_ | refine blk_alloc ?_ _)); exact BK104.out)) : gb104 ≠ gb105)); have n6_ := Aside0.mk ((by rw [hg]; exact Nat.ne_of_gt (blk_lt (g := gb104) (o := .cells #[.int .i64 0, .bool false, .int .i64 0, .bool false] 24 (0, 0)) (by (with_reducible repeat (first | refine blk_drewN ?_ _ | refine blk_drew ?_ | refine blk_alloc ?_ _)); exact BK104.out)) : gb105 ≠ gb104)); clear BK104; clear HB; have BK104 := n0_; have HB := n1_; have BK105 := n2_; have GW105 := n3_; have GE105 := n4_; have NB104_105 := n5_; have NB105_104 := n6_; clear n0_ n1_ n2_ n3_ n4_ n5_ n6_; clear hb hbox hg; have hnb5 := NB105_104.out; have hnc5 := NB104_105.out; have hcz6_0 : w4.cell? ⟨gb105, 0, none⟩ = some (.int .i64 0) := (blk_cell BK105.out 0).trans rfl; have hcz6_1 : w4.cell? ⟨gb105, 1, none⟩ = some (.bool false) := (blk_cell BK105.out 1).trans rfl; have hcz6_2 : w4.cell? ⟨gb105, 2, none⟩ = some (.int .i64 0) := (blk_cell BK105.out 2).trans rfl; have hcz6_3 : w4.cell? ⟨gb105, 3, none⟩ = some (.bool false) := (blk_cell BK105.out 3).trans rfl; have hfz6_0 := blk_frozen BK105.out 0; have hfz6_1 := blk_frozen BK105.out 1; have hfz6_2 := blk_frozen BK105.out 2; have hfz6_3 := blk_frozen BK105.out 3))
  go_loopg [13] k (fun kq v13 w' => ∃ (x13_1 : Int) (x105000_1 : Int) (x105001_1 : Bool) (x105002_1 : Int) (x105003_1 : Bool) (x106002_1 : Int), v13 = .int .i64 x13_1 ∧ Aside0 (sgi_Whom.l0 kq a0 l1 (l1.length : Int) x13_1 a0 false x106002_1 false = some (r1, r2, r3, r4, r5)) ∧ Aside0 (kq ≤ k) ∧ Aside0 (w'.heap[gb104]? = some (.cells #[.int .i64 x105000_1, .bool x105001_1, .int .i64 x105002_1, .bool x105003_1] 24 (0, 0))) ∧ Aside0 (w'.heap[gb105]? = some (.cells #[.int .i64 a0, .bool false, .int .i64 x106002_1, .bool false] 24 (0, 0))) ∧ Aside0 (Below w.heap.size w w'))
  case atStart => exact ⟨(0), (0), (false), (0), (false), (0), (by first | rfl | (simp; done) | (simp [*]; done) | (simp; exact (IntWalk.wrap64_in _ (by decide)).symm)), H', ⟨Nat.le_refl _⟩, ⟨by (with_reducible repeat (first | refine blk_drewN ?_ _ | refine blk_drew ?_ | refine blk_alloc ?_ _)); refine blk_far ?_ NB104_105.out _; (with_reducible repeat (first | refine blk_drewN ?_ _ | refine blk_drew ?_ | refine blk_alloc ?_ _)); refine blk_far ?_ NB104_105.out _; (with_reducible repeat (first | refine blk_drewN ?_ _ | refine blk_drew ?_ | refine blk_alloc ?_ _)); refine blk_far ?_ NB104_105.out _; (with_reducible repeat (first | refine blk_drewN ?_ _ | refine blk_drew ?_ | refine blk_alloc ?_ _)); refine blk_far ?_ NB104_105.out _; (with_reducible repeat (first | refine blk_drewN ?_ _ | refine blk_drew ?_ | refine blk_alloc ?_ _)); exact BK104.out⟩, ⟨by (with_reducible repeat (first | refine blk_drewN ?_ _ | refine blk_drew ?_ | refine blk_alloc ?_ _)); refine blk_put (cs := #[.int .i64 a0, .bool false, .int .i64 0, .bool false]) ?_ 3 _ rfl; (with_reducible repeat (first | refine blk_drewN ?_ _ | refine blk_drew ?_ | refine blk_alloc ?_ _)); refine blk_put (cs := #[.int .i64 a0, .bool false, .int .i64 0, .bool false]) ?_ 2 _ rfl; (with_reducible repeat (first | refine blk_drewN ?_ _ | refine blk_drew ?_ | refine blk_alloc ?_ _)); refine blk_put (cs := #[.int .i64 a0, .bool false, .int .i64 0, .bool false]) ?_ 1 _ rfl; (with_reducible repeat (first | refine blk_drewN ?_ _ | refine blk_drew ?_ | refine blk_alloc ?_ _)); refine blk_put (cs := #[.int .i64 0, .bool false, .int .i64 0, .bool false]) ?_ 0 _ rfl; (with_reducible repeat (first | refine blk_drewN ?_ _ | refine blk_drew ?_ | refine blk_alloc ?_ _)); exact BK105.out⟩, ⟨by repeat (first | (with_reducible first | exact HB.out | apply below_alloc | apply pw_below_drewN | apply below_drew1 | refine below_set ?_ GE104.out | refine below_set ?_ GE105.out) | exact HB.out)⟩⟩
  case round =>
    clear H'
    try clear c1
    try clear p2
    try clear c5
    try clear hcz6_0
    try clear hcz6_1
    try clear hcz6_2
    try clear hcz6_3
    try clear hfz6_0
    try clear hfz6_1
    try clear hfz6_2
    try clear hfz6_3
    obtain ⟨x13_1, x105000_1, x105001_1, x105002_1, x105003_1, x106002_1, rfl, HA, HK1, BK104, BK105, HB⟩ := hrel
    cases gk with
    | zero => exact absurd HA.out (by simp [sgi_Whom.l0])
    | succ k1 =>
      have H := HA.out
      clear HA
      simp only [sgi_Whom.l0] at H
      by_cases c7 : x13_1 < (l1.length : Int)
      · rw [if_pos c7] at H
        have c7b0 : decide (x13_1 < (l1.length : Int)) = true := decide_eq_true c7
        clear c7
        by_cases c8 : 0 ≤ x13_1
        · rw [if_pos c8] at H
          have c8b0 : decide (0 ≤ x13_1) = true := decide_eq_true c8
          clear c8
          by_cases c9 : x13_1 < (l1.length : Int)
          · rw [if_pos c9] at H
            have c9b0 : decide (x13_1 < (l1.length : Int)) = true := decide_eq_true c9
            clear c9
            by_cases c10 : (rd l1 x13_1) < 0
            · rw [if_pos c10] at H
              have c10b0 : decide ((rd l1 x13_1) < 0) = true := decide_eq_true c10
              clear c10
              simp only [Option.some.injEq, Prod.mk.injEq] at H
              obtain ⟨rfl, rfl, rfl, rfl, rfl⟩ := H
              have p106 : 0 ≤ (x13_1 : Int) := of_decide_eq_true (by first | (with_reducible assumption) | assumption)
              have q106 : x13_1 < (l1.length : Int) := of_decide_eq_true (by first | (with_reducible assumption) | assumption)
              obtain ⟨ad106, e106, hx106_0⟩ := Kd.at_int HR1.out x13_1 p106 q106
              cases e106
              replace hx106_0 := (HB.out.cell (World.block_lt_of_cell? w _ hx106_0)).trans hx106_0
              replace p106 := eq_true p106
              replace q106 := eq_true q106
              have hnb11 := NB104_105.out
              have hnc11 := NB105_104.out
              have hcz12_0 : wr.cell? ⟨gb104, 0, none⟩ = some (.int .i64 x105000_1) := (blk_cell BK104.out 0).trans rfl
              have hcz12_1 : wr.cell? ⟨gb104, 1, none⟩ = some (.bool x105001_1) := (blk_cell BK104.out 1).trans rfl
              have hcz12_2 : wr.cell? ⟨gb104, 2, none⟩ = some (.int .i64 x105002_1) := (blk_cell BK104.out 2).trans rfl
              have hcz12_3 : wr.cell? ⟨gb104, 3, none⟩ = some (.bool x105003_1) := (blk_cell BK104.out 3).trans rfl
              have hfz12_0 := blk_frozen BK104.out 0
              have hfz12_1 := blk_frozen BK104.out 1
              have hfz12_2 := blk_frozen BK104.out 2
              have hfz12_3 := blk_frozen BK104.out 3
              go_wp2
              refine bodyPost_ret (results_ct rfl _ _ gb104 24 #[.int .i64 0, .bool false, .int .i64 0, .bool false] (0, 0) _ rfl (by (with_reducible repeat (first | refine blk_drewN ?_ _ | refine blk_drew ?_ | refine blk_alloc ?_ _)); refine blk_put (cs := #[.int .i64 0, .bool false, .int .i64 0, .bool x105003_1]) ?_ 3 _ rfl; (with_reducible repeat (first | refine blk_drewN ?_ _ | refine blk_drew ?_ | refine blk_alloc ?_ _)); refine blk_put (cs := #[.int .i64 0, .bool false, .int .i64 x105002_1, .bool x105003_1]) ?_ 2 _ rfl; (with_reducible repeat (first | refine blk_drewN ?_ _ | refine blk_drew ?_ | refine blk_alloc ?_ _)); refine blk_put (cs := #[.int .i64 0, .bool x105001_1, .int .i64 x105002_1, .bool x105003_1]) ?_ 1 _ rfl; (with_reducible repeat (first | refine blk_drewN ?_ _ | refine blk_drew ?_ | refine blk_alloc ?_ _)); refine blk_put (cs := #[.int .i64 x105000_1, .bool x105001_1, .int .i64 x105002_1, .bool x105003_1]) ?_ 0 _ rfl; (with_reducible repeat (first | refine blk_drewN ?_ _ | refine blk_drew ?_ | refine blk_alloc ?_ _)); exact BK104.out) Try.underlying24 rfl (by kernel_rfl)) rfl ?_
              exact ⟨by first | rfl | (simp [errW_none, errW_some] <;> rfl) | (simp [*, errW_none, errW_some] <;> rfl), by repeat (first | (with_reducible first | exact HB.out | apply below_alloc | apply pw_below_drewN | apply below_drew1 | refine below_set ?_ GE104.out | refine below_set ?_ GE105.out) | exact HB.out)⟩
            · rw [if_neg c10] at H
              have c10b0 : decide ((rd l1 x13_1) < 0) = false := decide_eq_false c10
              clear c10
              by_cases c13 : (rd l1 x13_1) ≥ 8
              · rw [if_pos c13] at H
                have c13b0 : decide (8 ≤ (rd l1 x13_1)) = true := decide_eq_true c13
                clear c13
                simp only [Option.some.injEq, Prod.mk.injEq] at H
                obtain ⟨rfl, rfl, rfl, rfl, rfl⟩ := H
                have p106 : 0 ≤ (x13_1 : Int) := of_decide_eq_true (by first | (with_reducible assumption) | assumption)
                have q106 : x13_1 < (l1.length : Int) := of_decide_eq_true (by first | (with_reducible assumption) | assumption)
                obtain ⟨ad106, e106, hx106_0⟩ := Kd.at_int HR1.out x13_1 p106 q106
                cases e106
                replace hx106_0 := (HB.out.cell (World.block_lt_of_cell? w _ hx106_0)).trans hx106_0
                replace p106 := eq_true p106
                replace q106 := eq_true q106
                have hnb14 := NB104_105.out
                have hnc14 := NB105_104.out
                have hcz15_0 : wr.cell? ⟨gb104, 0, none⟩ = some (.int .i64 x105000_1) := (blk_cell BK104.out 0).trans rfl
                have hcz15_1 : wr.cell? ⟨gb104, 1, none⟩ = some (.bool x105001_1) := (blk_cell BK104.out 1).trans rfl
                have hcz15_2 : wr.cell? ⟨gb104, 2, none⟩ = some (.int .i64 x105002_1) := (blk_cell BK104.out 2).trans rfl
                have hcz15_3 : wr.cell? ⟨gb104, 3, none⟩ = some (.bool x105003_1) := (blk_cell BK104.out 3).trans rfl
                have hfz15_0 := blk_frozen BK104.out 0
                have hfz15_1 := blk_frozen BK104.out 1
                have hfz15_2 := blk_frozen BK104.out 2
                have hfz15_3 := blk_frozen BK104.out 3
                go_wp2
                refine bodyPost_ret (results_ct rfl _ _ gb104 24 #[.int .i64 0, .bool false, .int .i64 0, .bool false] (0, 0) _ rfl (by (with_reducible repeat (first | refine blk_drewN ?_ _ | refine blk_drew ?_ | refine blk_alloc ?_ _)); refine blk_put (cs := #[.int .i64 0, .bool false, .int .i64 0, .bool x105003_1]) ?_ 3 _ rfl; (with_reducible repeat (first | refine blk_drewN ?_ _ | refine blk_drew ?_ | refine blk_alloc ?_ _)); refine blk_put (cs := #[.int .i64 0, .bool false, .int .i64 x105002_1, .bool x105003_1]) ?_ 2 _ rfl; (with_reducible repeat (first | refine blk_drewN ?_ _ | refine blk_drew ?_ | refine blk_alloc ?_ _)); refine blk_put (cs := #[.int .i64 0, .bool x105001_1, .int .i64 x105002_1, .bool x105003_1]) ?_ 1 _ rfl; (with_reducible repeat (first | refine blk_drewN ?_ _ | refine blk_drew ?_ | refine blk_alloc ?_ _)); refine blk_put (cs := #[.int .i64 x105000_1, .bool x105001_1, .int .i64 x105002_1, .bool x105003_1]) ?_ 0 _ rfl; (with_reducible repeat (first | refine blk_drewN ?_ _ | refine blk_drew ?_ | refine blk_alloc ?_ _)); exact BK104.out) Try.underlying24 rfl (by kernel_rfl)) rfl ?_
                exact ⟨by first | rfl | (simp [errW_none, errW_some] <;> rfl) | (simp [*, errW_none, errW_some] <;> rfl), by repeat (first | (with_reducible first | exact HB.out | apply below_alloc | apply pw_below_drewN | apply below_drew1 | refine below_set ?_ GE104.out | refine below_set ?_ GE105.out) | exact HB.out)⟩
              · rw [if_neg c13] at H
                have c13b0 : decide (8 ≤ (rd l1 x13_1)) = false := decide_eq_false c13
                clear c13
                by_cases c16 : 0 ≤ (rd l1 x13_1)
                · rw [if_pos c16] at H
                  have c16b0 := eq_true c16
                  have c16b1 : decide (0 ≤ (rd l1 x13_1)) = true := decide_eq_true c16
                  clear c16
                  obtain ⟨ji17, hji17⟩ : ∃ j_ : Int, (shl .i64 1 (rd l1 x13_1)) = j_ := ⟨_, rfl⟩
                  replace H : (sgi_Whom.l0 k1 a0 l1 (l1.length : Int) (wrap64 (x13_1 + 1)) a0 false (Go.bits .or .i64 x106002_1 (ji17)) false) = some (r1, r2, r3, r4, r5) := by first | (rw [hji17] at H; exact H) | (simp only [hji17] at H ⊢; exact H)
                  have hji17_ : (IntKind.i64.wrap (1 * 2 ^ min (rd l1 x13_1).toNat 64)) = ji17 := hji17
                  have hji17z : (rd l1 x13_1) ≤ 64 → (IntKind.i64.wrap (1 * 2 ^ (rd l1 x13_1).toNat)) = ji17 := shl_small hji17
                  have hji17u : (IntKind.i64.wrap (2 ^ min (rd l1 x13_1).toNat 64)) = ji17 := by have h_ := hji17_; rw [Int.one_mul] at h_; exact h_
                  have hji17v : (rd l1 x13_1) ≤ 64 → (IntKind.i64.wrap (2 ^ (rd l1 x13_1).toNat)) = ji17 := fun hle_ => by have h_ := hji17z hle_; rw [Int.one_mul] at h_; exact h_
                  have hji17y : (wrap64 (1 * 2 ^ min (rd l1 x13_1).toNat 64)) = ji17 := (i64_w _).symm.trans hji17_
                  have hji17x : (rd l1 x13_1) ≤ 64 → (wrap64 (1 * 2 ^ (rd l1 x13_1).toNat)) = ji17 := fun h_ => (i64_w _).symm.trans (hji17z h_)
                  have H' := Aside0.mk H
                  clear H
                  have p106 : 0 ≤ (x13_1 : Int) := of_decide_eq_true (by first | (with_reducible assumption) | assumption)
                  have q106 : x13_1 < (l1.length : Int) := of_decide_eq_true (by first | (with_reducible assumption) | assumption)
                  obtain ⟨ad106, e106, hx106_0⟩ := Kd.at_int HR1.out x13_1 p106 q106
                  cases e106
                  replace hx106_0 := (HB.out.cell (World.block_lt_of_cell? w _ hx106_0)).trans hx106_0
                  replace p106 := eq_true p106
                  replace q106 := eq_true q106
                  try go_wp2
                  have n0_ := Aside0.mk (blk_drew BK104.out)
                  have n1_ := Aside0.mk (blk_drew BK105.out)
                  have n2_ := Aside0.mk (below_drew1 HB.out)
                  clear BK104
                  clear BK105
                  clear HB
                  have BK104 := n0_
                  have BK105 := n1_
                  have HB := n2_
                  clear n0_ n1_ n2_
                  refine start_ (n := 7) (S := fun w' => w'.cell? ⟨gb105, 0, none⟩ = some (.int .i64 a0) ∧ w'.cell? ⟨gb105, 1, none⟩ = some (.bool false) ∧ w'.cell? ⟨gb105, 2, none⟩ = some (.int .i64 x106002_1) ∧ w'.cell? ⟨gb105, 3, none⟩ = some (.bool false)) (ds := [6]) #[false, false, false, false, false, false, false] (by kernel_rfl) rfl rfl ⟨(blk_cell BK105.out 0).trans rfl, (blk_cell BK105.out 1).trans rfl, (blk_cell BK105.out 2).trans rfl, (blk_cell BK105.out 3).trans rfl⟩ (fun hHeld => ?_)
                  generalize wr.drew = w18 at BK104 BK105 HB hHeld ⊢
                  refine pure_ (i := 0) (N := some 24) (v := ?_) (a' := ?_) #[true, false, false, false, false, false, false] rfl rfl (by kernel_rfl) (fun _ _ _ h => h) (Or.inl ⟨by rfl, ?_⟩) ?_ ?_
                  rotate_left
                  · intro w'
                    go_simp
                    with_reducible rfl
                  rotate_left
                  · simp only [Act.put, List.setIfInBounds_toArray, List.set_cons_zero, List.set_cons_succ, i64_w, i32_w]
                    rfl
                  refine pure_ (i := 2) (N := some 26) (v := ?_) (a' := ?_) #[true, false, true, false, false, false, false] rfl rfl (by kernel_rfl) (fun _ _ _ h => h) (Or.inl ⟨by rfl, ?_⟩) ?_ ?_
                  rotate_left
                  · intro w'
                    go_simp
                    with_reducible rfl
                  rotate_left
                  · simp only [Act.put, List.setIfInBounds_toArray, List.set_cons_zero, List.set_cons_succ, i64_w, i32_w]
                    rfl
                  refine pure_ (i := 3) (N := some 27) (v := ?_) (a' := ?_) #[true, false, true, true, false, false, false] rfl rfl (by kernel_rfl) (fun _ _ _ h => h) (Or.inl ⟨by rfl, ?_⟩) ?_ ?_
                  rotate_left
                  · intro w'
                    go_simp
                    with_reducible rfl
                  rotate_left
                  · simp only [Act.put, List.setIfInBounds_toArray, List.set_cons_zero, List.set_cons_succ, i64_w, i32_w]
                    rfl
                  refine take_ (i := 1) (N := some 25) (v := ?_) (a' := ?_) #[true, true, true, true, false, false, false] rfl rfl (by kernel_rfl) (fun _ _ _ h => h) (Or.inl ⟨by rfl, ?_⟩) hHeld ?_ ?_
                  rotate_left
                  · rintro w' ⟨s0, s1, s2, s3⟩
                    go_simp
                    with_reducible rfl
                  rotate_left
                  · simp only [Act.put, List.setIfInBounds_toArray, List.set_cons_zero, List.set_cons_succ, i64_w, i32_w]
                    rfl
                  refine pure_ (i := 4) (N := some 28) (v := ?_) (a' := ?_) #[true, true, true, true, true, false, false] rfl rfl (by kernel_rfl) (fun _ _ _ h => h) (Or.inl ⟨by rfl, ?_⟩) ?_ ?_
                  rotate_left
                  · intro w'
                    go_simp
                    with_reducible rfl
                  rotate_left
                  · simp only [Act.put, List.setIfInBounds_toArray, List.set_cons_zero, List.set_cons_succ, i64_w, i32_w]
                    rfl
                  refine pure_ (i := 5) (N := some 29) (v := ?_) (a' := ?_) #[true, true, true, true, true, true, false] rfl rfl (by kernel_rfl) (fun _ _ _ h => h) (Or.inl ⟨by rfl, ?_⟩) ?_ ?_
                  rotate_left
                  · intro w'
                    go_simp
                    with_reducible rfl
                  rotate_left
                  · simp only [Act.put, List.setIfInBounds_toArray, List.set_cons_zero, List.set_cons_succ, i64_w, i32_w]
                    rfl
                  refine last_ (i := 6) (N := none) #[true, true, true, true, true, true, true] rfl rfl (by kernel_rfl) (by decide) (fun K hK => ?_)
                  have hs19 : w18.cell? ⟨gb105, 2, none⟩ = some (.int .i64 x106002_1) := (blk_cell BK105.out 2).trans rfl
                  have hfs19 := blk_frozen BK105.out 2
                  have hns19_0 := NB104_105.out
                  have hms19_0 := NB105_104.out
                  (with_reducible refine skip_ (w1 := ?_) ?hwa ?hwb ?_ ?_)
                  (case hwa => rfl)
                  (case hwb => rfl)
                  rotate_left
                  · go_simp
                    rfl
                  refine hK.out _ _ ?_
                  clear hK K
                  refine done_ (by kernel_rfl) ?_
                  try go_wp2
                  go_roundg k1
                  case measure => have := HK1.out; omega
                  case rel => exact ⟨(wrap64 (x13_1 + 1)), (x105000_1), (x105001_1), (x105002_1), (x105003_1), (Go.bits .or .i64 x106002_1 (ji17)), (by first | rfl | (simp; done) | (simp [*]; done) | (simp; exact (IntWalk.wrap64_in _ (by decide)).symm)), H', ⟨by have := HK1.out; omega⟩, ⟨by (with_reducible repeat (first | refine blk_drewN ?_ _ | refine blk_drew ?_ | refine blk_alloc ?_ _)); refine blk_far ?_ NB104_105.out _; (with_reducible repeat (first | refine blk_drewN ?_ _ | refine blk_drew ?_ | refine blk_alloc ?_ _)); exact BK104.out⟩, ⟨by (with_reducible repeat (first | refine blk_drewN ?_ _ | refine blk_drew ?_ | refine blk_alloc ?_ _)); refine blk_put (cs := #[.int .i64 a0, .bool false, .int .i64 x106002_1, .bool false]) ?_ 2 _ rfl; (with_reducible repeat (first | refine blk_drewN ?_ _ | refine blk_drew ?_ | refine blk_alloc ?_ _)); exact BK105.out⟩, ⟨by repeat (first | (with_reducible first | exact HB.out | apply below_alloc | apply pw_below_drewN | apply below_drew1 | refine below_set ?_ GE104.out | refine below_set ?_ GE105.out) | exact HB.out)⟩⟩
                · rw [if_neg c16] at H
                  exact absurd H (by simp)
          · rw [if_neg c9] at H
            exact absurd H (by simp)
        · rw [if_neg c8] at H
          exact absurd H (by simp)
      · rw [if_neg c7] at H
        have c7b0 : decide (x13_1 < (l1.length : Int)) = false := decide_eq_false c7
        clear c7
        by_cases c20 : a0 < 0
        · rw [if_pos c20] at H
          have c20b0 : decide (a0 < 0) = true := decide_eq_true c20
          clear c20
          simp only [Option.some.injEq, Prod.mk.injEq] at H
          obtain ⟨rfl, rfl, rfl, rfl, rfl⟩ := H
          have hnb21 := NB104_105.out
          have hnc21 := NB105_104.out
          have hcz22_0 : wr.cell? ⟨gb104, 0, none⟩ = some (.int .i64 x105000_1) := (blk_cell BK104.out 0).trans rfl
          have hcz22_1 : wr.cell? ⟨gb104, 1, none⟩ = some (.bool x105001_1) := (blk_cell BK104.out 1).trans rfl
          have hcz22_2 : wr.cell? ⟨gb104, 2, none⟩ = some (.int .i64 x105002_1) := (blk_cell BK104.out 2).trans rfl
          have hcz22_3 : wr.cell? ⟨gb104, 3, none⟩ = some (.bool x105003_1) := (blk_cell BK104.out 3).trans rfl
          have hfz22_0 := blk_frozen BK104.out 0
          have hfz22_1 := blk_frozen BK104.out 1
          have hfz22_2 := blk_frozen BK104.out 2
          have hfz22_3 := blk_frozen BK104.out 3
          go_wp2
          refine bodyPost_ret (results_ct rfl _ _ gb104 24 #[.int .i64 0, .bool false, .int .i64 0, .bool false] (0, 0) _ rfl (by (with_reducible repeat (first | refine blk_drewN ?_ _ | refine blk_drew ?_ | refine blk_alloc ?_ _)); refine blk_put (cs := #[.int .i64 0, .bool false, .int .i64 0, .bool x105003_1]) ?_ 3 _ rfl; (with_reducible repeat (first | refine blk_drewN ?_ _ | refine blk_drew ?_ | refine blk_alloc ?_ _)); refine blk_put (cs := #[.int .i64 0, .bool false, .int .i64 x105002_1, .bool x105003_1]) ?_ 2 _ rfl; (with_reducible repeat (first | refine blk_drewN ?_ _ | refine blk_drew ?_ | refine blk_alloc ?_ _)); refine blk_put (cs := #[.int .i64 0, .bool x105001_1, .int .i64 x105002_1, .bool x105003_1]) ?_ 1 _ rfl; (with_reducible repeat (first | refine blk_drewN ?_ _ | refine blk_drew ?_ | refine blk_alloc ?_ _)); refine blk_put (cs := #[.int .i64 x105000_1, .bool x105001_1, .int .i64 x105002_1, .bool x105003_1]) ?_ 0 _ rfl; (with_reducible repeat (first | refine blk_drewN ?_ _ | refine blk_drew ?_ | refine blk_alloc ?_ _)); exact BK104.out) Try.underlying24 rfl (by kernel_rfl)) rfl ?_
          exact ⟨by first | rfl | (simp [errW_none, errW_some] <;> rfl) | (simp [*, errW_none, errW_some] <;> rfl), by repeat (first | (with_reducible first | exact HB.out | apply below_alloc | apply pw_below_drewN | apply below_drew1 | refine below_set ?_ GE104.out | refine below_set ?_ GE105.out) | exact HB.out)⟩
        · rw [if_neg c20] at H
          have c20b0 : decide (a0 < 0) = false := decide_eq_false c20
          clear c20
          by_cases c23 : a0 > 15
          · rw [if_pos c23] at H
            have c23b0 : decide (15 < a0) = true := decide_eq_true c23
            clear c23
            simp only [Option.some.injEq, Prod.mk.injEq] at H
            obtain ⟨rfl, rfl, rfl, rfl, rfl⟩ := H
            have hnb24 := NB104_105.out
            have hnc24 := NB105_104.out
            have hcz25_0 : wr.cell? ⟨gb104, 0, none⟩ = some (.int .i64 x105000_1) := (blk_cell BK104.out 0).trans rfl
            have hcz25_1 : wr.cell? ⟨gb104, 1, none⟩ = some (.bool x105001_1) := (blk_cell BK104.out 1).trans rfl
            have hcz25_2 : wr.cell? ⟨gb104, 2, none⟩ = some (.int .i64 x105002_1) := (blk_cell BK104.out 2).trans rfl
            have hcz25_3 : wr.cell? ⟨gb104, 3, none⟩ = some (.bool x105003_1) := (blk_cell BK104.out 3).trans rfl
            have hfz25_0 := blk_frozen BK104.out 0
            have hfz25_1 := blk_frozen BK104.out 1
            have hfz25_2 := blk_frozen BK104.out 2
            have hfz25_3 := blk_frozen BK104.out 3
            go_wp2
            refine bodyPost_ret (results_ct rfl _ _ gb104 24 #[.int .i64 0, .bool false, .int .i64 0, .bool false] (0, 0) _ rfl (by (with_reducible repeat (first | refine blk_drewN ?_ _ | refine blk_drew ?_ | refine blk_alloc ?_ _)); refine blk_put (cs := #[.int .i64 0, .bool false, .int .i64 0, .bool x105003_1]) ?_ 3 _ rfl; (with_reducible repeat (first | refine blk_drewN ?_ _ | refine blk_drew ?_ | refine blk_alloc ?_ _)); refine blk_put (cs := #[.int .i64 0, .bool false, .int .i64 x105002_1, .bool x105003_1]) ?_ 2 _ rfl; (with_reducible repeat (first | refine blk_drewN ?_ _ | refine blk_drew ?_ | refine blk_alloc ?_ _)); refine blk_put (cs := #[.int .i64 0, .bool x105001_1, .int .i64 x105002_1, .bool x105003_1]) ?_ 1 _ rfl; (with_reducible repeat (first | refine blk_drewN ?_ _ | refine blk_drew ?_ | refine blk_alloc ?_ _)); refine blk_put (cs := #[.int .i64 x105000_1, .bool x105001_1, .int .i64 x105002_1, .bool x105003_1]) ?_ 0 _ rfl; (with_reducible repeat (first | refine blk_drewN ?_ _ | refine blk_drew ?_ | refine blk_alloc ?_ _)); exact BK104.out) Try.underlying24 rfl (by kernel_rfl)) rfl ?_
            exact ⟨by first | rfl | (simp [errW_none, errW_some] <;> rfl) | (simp [*, errW_none, errW_some] <;> rfl), by repeat (first | (with_reducible first | exact HB.out | apply below_alloc | apply pw_below_drewN | apply below_drew1 | refine below_set ?_ GE104.out | refine below_set ?_ GE105.out) | exact HB.out)⟩
          · rw [if_neg c23] at H
            have c23b0 : decide (15 < a0) = false := decide_eq_false c23
            clear c23
            simp only [Option.some.injEq, Prod.mk.injEq] at H
            obtain ⟨rfl, rfl, rfl, rfl, rfl⟩ := H
            have hnb26 := NB105_104.out
            have hnc26 := NB104_105.out
            have hcz27_0 : wr.cell? ⟨gb105, 0, none⟩ = some (.int .i64 a0) := (blk_cell BK105.out 0).trans rfl
            have hcz27_1 : wr.cell? ⟨gb105, 1, none⟩ = some (.bool false) := (blk_cell BK105.out 1).trans rfl
            have hcz27_2 : wr.cell? ⟨gb105, 2, none⟩ = some (.int .i64 x106002_1) := (blk_cell BK105.out 2).trans rfl
            have hcz27_3 : wr.cell? ⟨gb105, 3, none⟩ = some (.bool false) := (blk_cell BK105.out 3).trans rfl
            have hfz27_0 := blk_frozen BK105.out 0
            have hfz27_1 := blk_frozen BK105.out 1
            have hfz27_2 := blk_frozen BK105.out 2
            have hfz27_3 := blk_frozen BK105.out 3
            have hcz28_0 : wr.cell? ⟨gb104, 0, none⟩ = some (.int .i64 x105000_1) := (blk_cell BK104.out 0).trans rfl
            have hcz28_1 : wr.cell? ⟨gb104, 1, none⟩ = some (.bool x105001_1) := (blk_cell BK104.out 1).trans rfl
            have hcz28_2 : wr.cell? ⟨gb104, 2, none⟩ = some (.int .i64 x105002_1) := (blk_cell BK104.out 2).trans rfl
            have hcz28_3 : wr.cell? ⟨gb104, 3, none⟩ = some (.bool x105003_1) := (blk_cell BK104.out 3).trans rfl
            have hfz28_0 := blk_frozen BK104.out 0
            have hfz28_1 := blk_frozen BK104.out 1
            have hfz28_2 := blk_frozen BK104.out 2
            have hfz28_3 := blk_frozen BK104.out 3
            go_wp2
            refine bodyPost_ret (results_ct rfl _ _ gb104 24 #[.int .i64 a0, .bool false, .int .i64 x106002_1, .bool false] (0, 0) _ rfl (by (with_reducible repeat (first | refine blk_drewN ?_ _ | refine blk_drew ?_ | refine blk_alloc ?_ _)); refine blk_put (cs := #[.int .i64 a0, .bool false, .int .i64 x106002_1, .bool x105003_1]) ?_ 3 _ rfl; (with_reducible repeat (first | refine blk_drewN ?_ _ | refine blk_drew ?_ | refine blk_alloc ?_ _)); refine blk_put (cs := #[.int .i64 a0, .bool false, .int .i64 x105002_1, .bool x105003_1]) ?_ 2 _ rfl; (with_reducible repeat (first | refine blk_drewN ?_ _ | refine blk_drew ?_ | refine blk_alloc ?_ _)); refine blk_put (cs := #[.int .i64 a0, .bool x105001_1, .int .i64 x105002_1, .bool x105003_1]) ?_ 1 _ rfl; (with_reducible repeat (first | refine blk_drewN ?_ _ | refine blk_drew ?_ | refine blk_alloc ?_ _)); refine blk_put (cs := #[.int .i64 x105000_1, .bool x105001_1, .int .i64 x105002_1, .bool x105003_1]) ?_ 0 _ rfl; (with_reducible repeat (first | refine blk_drewN ?_ _ | refine blk_drew ?_ | refine blk_alloc ?_ _)); exact BK104.out) Try.underlying24 rfl (by kernel_rfl)) rfl ?_
            exact ⟨by first | rfl | (simp [errW_none, errW_some] <;> rfl) | (simp [*, errW_none, errW_some] <;> rfl), by repeat (first | (with_reducible first | exact HB.out | apply below_alloc | apply pw_below_drewN | apply below_drew1 | refine below_set ?_ GE104.out | refine below_set ?_ GE105.out) | exact HB.out)⟩

end Go.Proofs.Ytfenchaiflfobaa.IAll
