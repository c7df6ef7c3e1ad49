/- Texts of this claim, put together: IAllx7, IAllx14, Vp, Vq, Vd, Ve, Cp12, LadP. -/
import Derived.Test.YtkbaghblchlcnaaE10
import Derived.Test.YtkbaghblchlcnaaE14
import Derived.Deep.RegionHeld3
import Derived.Deep.RegionWith
import Derived.Test.YtkbaghblchlcnaaE13
-- Written by the program wip/gen/inj.py of this repository, out of the translation, for this claim. Not trusted: Lean checks it.
namespace Go.Proofs.Ytkbaghblchlcnaa.IAll
open Go.RowKit Go.Proofs.YtkbaghblchlcnaaW.PrintWords Go.Proofs.YtkbaghblchlcnaaW.PrintLast Go.Proofs.YtkbaghblchlcnaaW.PrintMore
attribute [local go_sem] max2_int min2_int max_two min_two max_three min_three max_four min_four   -- for this text's walks alone
set_option linter.unusedVariables false
set_option linter.unusedSimpArgs false
/-! ### crierref20_Best: function 58 -/
def crierref20_Best.l0 : Nat → List (S54) → List Int → Int → Int → Int → Int → Int → Bool → Option (Int × Int × Int × Bool)
  | 0, _, _, _, _, _, _, _, _ => none
  | k + 1, x0, x8, x9, x10, x121000, x121001, x121002, x121003 => if x10 < x9 then (if 0 ≤ x10 then (if x10 < (x8.length : Int) then (if 0 ≤ (rd x8 x10) then (if (rd x8 x10) < (x0.length : Int) then (if x121003 = true then ((crierref06_Before.f ((rd_T54 x0 (rd x8 x10)).f2) ((rd_T54 x0 (rd x8 x10)).f1) x121001 x121000).bind fun t127 => (if t127 = true then (crierref20_Best.l0 k x0 x8 x9 (wrap64 (x10 + 1)) ((rd_T54 x0 (rd x8 x10)).f1) ((rd_T54 x0 (rd x8 x10)).f2) ((rd_T54 x0 (rd x8 x10)).f3) true) else (crierref20_Best.l0 k x0 x8 x9 (wrap64 (x10 + 1)) x121000 x121001 x121002 x121003))) else (crierref20_Best.l0 k x0 x8 x9 (wrap64 (x10 + 1)) ((rd_T54 x0 (rd x8 x10)).f1) ((rd_T54 x0 (rd x8 x10)).f2) ((rd_T54 x0 (rd x8 x10)).f3) true)) else (none)) else (none)) else (none)) else (none)) else (some (x121000, x121001, x121002, x121003))
def crierref20_Best.f (k : Nat) (l0 : List (S54)) : Option (Int × Int × Int × Bool) := (crierref20_Waits.f k l0).bind fun t121 => (crierref20_Best.l0 k l0 t121 (t121.length : Int) 0 0 0 0 false)
theorem crierref20_Best.mono_l : ∀ k, (∀ y0 y1 y2 y3 y4 y5 y6 y7, LeO (crierref20_Best.l0 k y0 y1 y2 y3 y4 y5 y6 y7) (crierref20_Best.l0 (k + 1) y0 y1 y2 y3 y4 y5 y6 y7))
  | 0 => fun _ _ _ _ _ _ _ _ r h => by simp [crierref20_Best.l0] at h
  | k + 1 => by
    have ih0 := crierref20_Best.mono_l k
    · intro y0 y1 y2 y3 y4 y5 y6 y7
      unfold crierref20_Best.l0
      repeat' first
      | (with_reducible exact ih0 _ _ _ _ _ _ _ _)
      | (with_reducible exact crierref20_Waits.mono _ _)
      | (with_reducible exact LeO.refl _)
      | (with_reducible exact LeO.none _)
      | (with_reducible refine LeO.ite ?_ ?_)
      | (with_reducible refine LeO.bind ?_ (fun _ => ?_))
      | exact ih0 _ _ _ _ _ _ _ _
      | exact crierref20_Waits.mono _ _
      | exact LeO.none _
      | refine LeO.ite ?_ ?_
      | refine LeO.bind ?_ (fun _ => ?_)
set_option maxHeartbeats 8000000 in
set_option maxRecDepth 100000 in
theorem crierref20_Best.calls (k : Nat) (A0 : Option Addr) (c0 : Nat) (l0 : List (S54)) (r1 : Int) (r2 : Int) (r3 : Int) (r4 : Bool) (w : World) (hr0 : Kd.C k54 w A0 l0.length l0) (hc0 : l0.length ≤ c0) (h : crierref20_Best.f k l0 = some (r1, r2, r3, r4)) :
    Calls Try.prog 58 #[.slice A0 l0.length c0] w fun e w' => e = .returned (.agg #[.int .i64 r1, .int .i64 r2, .int .i64 r3, .bool r4]) ∧ Below w.heap.size w w' := by
  have hu47 := Try.underlying47
  have hu54 := Try.underlying54
  have HR0 := Aside0.mk hr0
  have HC0 := Aside0.mk hc0
  clear hr0 hc0
  have HB := Aside0.mk (Below.refl w.heap.size w)
  have H : ((crierref20_Waits.f k l0).bind fun t121 => (crierref20_Best.l0 k l0 t121 (t121.length : Int) 0 0 0 0 false)) = some (r1, r2, r3, r4) := h
  clear h
  replace H := Option.bind_eq_some_iff.mp H
  obtain ⟨t121, A20, H⟩ := H
  replace H : (crierref20_Best.l0 k l0 t121 (t121.length : Int) 0 0 0 0 false) = some (r1, r2, r3, r4) := H
  have A2 := Aside0.mk A20
  clear A20
  have H' := Aside0.mk H
  clear H
  go_enter Try.func58, Try.ntmps58
  go_wp2_with (first | ((with_reducible refine gate_dst (N := 2) rfl ?_); refine box_event ?hg (N := 2) ?hd (cs := #[.int .i64 0, .int .i64 0, .int .i64 0, .bool false]) (t := 47) ?hr ?_; (case hd => rfl); (case hg => rfl); (case hr => first | (go_simp; done) | (go_simp; rfl)); intro gb119 hg w3 hbox hb; have n0_ := Aside0.mk (below_step (by repeat (first | (with_reducible first | exact HB.out | apply below_alloc | apply pw_below_drewN | apply below_drew1) | exact HB.out)) hb); have n1_ := Aside0.mk (hbox); have n2_ := Aside0.mk ((by rw [hg]; exact (below_size (by repeat (first | (with_reducible first | exact HB.out | apply below_alloc | apply pw_below_drewN | apply below_drew1) | exact HB.out))) : w.heap.size ≤ gb119)); have n3_ := Aside0.mk ((by rw [hg]; exact (below_size (by repeat (first | (with_reducible first | exact HB.out | apply below_alloc | apply pw_below_drewN | apply below_drew1) | exact HB.out))) : w.heap.size ≤ gb119)); clear HB; have HB := n0_; have BK119 := n1_; have GW119 := n2_; have GE119 := n3_; clear n0_ n1_ n2_ n3_; clear hb hbox hg) | ((with_reducible refine gate_dst (N := 3) rfl ?_); refine box_event ?hg (N := 3) ?hd (cs := #[.int .i64 0, .int .i64 0, .int .i64 0, .bool false]) (t := 47) ?hr ?_; (case hd => rfl); (case hg => rfl); (case hr => first | (go_simp; done) | (go_simp; rfl)); intro gb120 hg w4 hbox hb; have n0_ := Aside0.mk (blk_below (g := gb119) (o := .cells #[.int .i64 0, .int .i64 0, .int .i64 0, .bool false] 47 (0, 0)) (by (with_reducible repeat (first | refine blk_drewN ?_ _ | refine blk_drew ?_ | refine blk_alloc ?_ _)); exact BK119.out) hb); have n1_ := Aside0.mk (below_step (by repeat (first | (with_reducible first | exact HB.out | apply below_alloc | apply pw_below_drewN | apply below_drew1 | refine below_set ?_ GE119.out) | exact HB.out)) hb); have n2_ := Aside0.mk (hbox); have n3_ := Aside0.mk ((by rw [hg]; exact (below_size (by repeat (first | (with_reducible first | exact HB.out | apply below_alloc | apply pw_below_drewN | apply below_drew1 | refine below_set ?_ GE119.out) | exact HB.out))) : w.heap.size ≤ gb120)); have n4_ := Aside0.mk ((by rw [hg]; exact (below_size (by repeat (first | (with_reducible first | exact HB.out | apply below_alloc | apply pw_below_drewN | apply below_drew1 | refine below_set ?_ GE119.out) | exact HB.out))) : w.heap.size ≤ gb120)); have n5_ := Aside0.mk ((by rw [hg]; exact Nat.ne_of_lt (blk_lt (g := gb119) (o := .cells #[.int .i64 0, .int .i64 0, .int .i64 0, .bool false] 47 (0, 0)) (by (with_reducible repeat (first | refine blk_drewN ?_ _ | refine blk_drew ?_ | refine blk_alloc ?_ _)); exact BK119.out)) : gb119 ≠ gb120)); have n6_ := Aside0.mk ((by rw [hg]; exact Nat.ne_of_gt (blk_lt (g := gb119) (o := .cells #[.int .i64 0, .int .i64 0, .int .i64 0, .bool false] 47 (0, 0)) (by (with_reducible repeat (first | refine blk_drewN ?_ _ | refine blk_drew ?_ | refine blk_alloc ?_ _)); exact BK119.out)) : gb120 ≠ gb119)); clear BK119; clear HB; have BK119 := n0_; have HB := n1_; have BK120 := n2_; have GW120 := n3_; have GE120 := n4_; have NB119_120 := n5_; have NB120_119 := n6_; clear n0_ n1_ n2_ n3_ n4_ n5_ n6_; clear hb hbox hg) | ((with_reducible refine gate_callee (f := 80) rfl ?_); refine goesL_ (some 8) rfl rfl Try.func80 (by kernel_rfl) rfl #[.slice A0 l0.length c0] rfl (by (try simp only [List.map_toArray, List.map_cons, List.map_nil]); first | done | rfl | (simp only [List.length_drop, List.length_take]; rfl)) ?_; (with_reducible refine (crierref20_Waits.calls k _ _ l0 t121 _ ?side1 ?side2 A2.out).mono ?_); (case side1 => repeat (first | exact (Kd.C_below HR0.out HB.out) | (with_reducible refine Kd.C_alloc ?_ _) | (with_reducible refine Kd.C_drewN ?_ _) | (with_reducible refine Kd.C_drew ?_))); (case side2 => exact HC0.out); rintro e w5 ⟨v122, rfl, ho0, hb⟩; refine ⟨_, rfl, ?_⟩; have n0_ := Aside0.mk (Kd.R_lower ho0 (below_size (by repeat (first | (with_reducible first | exact HB.out | apply below_alloc | apply pw_below_drewN | apply below_drew1 | refine below_set ?_ GE119.out | refine below_set ?_ GE120.out) | exact HB.out)))); have n1_ := Aside0.mk (blk_below (g := gb119) (o := .cells #[.int .i64 0, .int .i64 0, .int .i64 0, .bool false] 47 (0, 0)) (by (with_reducible repeat (first | refine blk_drewN ?_ _ | refine blk_drew ?_ | refine blk_alloc ?_ _)); exact BK119.out) hb); have n2_ := Aside0.mk (blk_below (g := gb120) (o := .cells #[.int .i64 0, .int .i64 0, .int .i64 0, .bool false] 47 (0, 0)) (by (with_reducible repeat (first | refine blk_drewN ?_ _ | refine blk_drew ?_ | refine blk_alloc ?_ _)); exact BK120.out) hb); have n3_ := Aside0.mk (below_step (by repeat (first | (with_reducible first | exact HB.out | apply below_alloc | apply pw_below_drewN | apply below_drew1 | refine below_set ?_ GE119.out | refine below_set ?_ GE120.out) | exact HB.out)) hb); clear BK119; clear BK120; clear HB; have HO123 := n0_; have BK119 := n1_; have BK120 := n2_; have HB := n3_; clear n0_ n1_ n2_ n3_; (try clear hb); (try clear hb2); (try clear hk); (try clear hi); (try clear ho0); obtain ⟨Ao6, co6, eo6⟩ := Kd.R_slice HO123.out; subst eo6))
  go_loopg [10] k (fun kq v10 w' => ∃ (x10_1 : Int) (x121000_1 : Int) (x121001_1 : Int) (x121002_1 : Int) (x121003_1 : Bool), v10 = .int .i64 x10_1 ∧ Aside0 (crierref20_Best.l0 kq l0 t121 (t121.length : Int) x10_1 x121000_1 x121001_1 x121002_1 x121003_1 = some (r1, r2, r3, r4)) ∧ Aside0 (kq ≤ k) ∧ Aside0 (Kd.R (Kd.int .i64) 3 w' w.heap.size (fun _ => True) (.slice Ao6 t121.length co6) t121) ∧ Aside0 (w'.heap[gb119]? = some (.cells #[.int .i64 0, .int .i64 0, .int .i64 0, .bool false] 47 (0, 0))) ∧ Aside0 (w'.heap[gb120]? = some (.cells #[.int .i64 x121000_1, .int .i64 x121001_1, .int .i64 x121002_1, .bool x121003_1] 47 (0, 0))) ∧ Aside0 (Below w.heap.size w w'))
  case atStart => exact ⟨(0), (0), (0), (0), (false), (by first | rfl | (simp; done) | (simp [*]; done) | (simp; exact (IntWalk.wrap64_in _ (by decide)).symm)), H', ⟨Nat.le_refl _⟩, ⟨by (with_reducible repeat (first | apply Kd.R_alloc | apply Kd.R_drewN | apply Kd.R_drew)); exact HO123.out⟩, ⟨by (with_reducible repeat (first | refine blk_drewN ?_ _ | refine blk_drew ?_ | refine blk_alloc ?_ _)); exact BK119.out⟩, ⟨by (with_reducible repeat (first | refine blk_drewN ?_ _ | refine blk_drew ?_ | refine blk_alloc ?_ _)); exact BK120.out⟩, ⟨by repeat (first | (with_reducible first | exact HB.out | apply below_alloc | apply pw_below_drewN | apply below_drew1 | refine below_set ?_ GE119.out | refine below_set ?_ GE120.out) | exact HB.out)⟩⟩
  case round =>
    clear H'
    try clear p2
    try clear c5
    obtain ⟨x10_1, x121000_1, x121001_1, x121002_1, x121003_1, rfl, HA, HK1, HO_8, BK119, BK120, HB⟩ := hrel
    cases gk with
    | zero => exact absurd HA.out (by simp [crierref20_Best.l0])
    | succ k1 =>
      have H := HA.out
      clear HA
      simp only [crierref20_Best.l0] at H
      by_cases c7 : x10_1 < (t121.length : Int)
      · rw [if_pos c7] at H
        have c7b0 : decide (x10_1 < (t121.length : Int)) = true := decide_eq_true c7
        clear c7
        by_cases c8 : 0 ≤ x10_1
        · rw [if_pos c8] at H
          have c8b0 : decide (0 ≤ x10_1) = true := decide_eq_true c8
          clear c8
          by_cases c9 : x10_1 < (t121.length : Int)
          · rw [if_pos c9] at H
            have c9b0 : decide (x10_1 < (t121.length : Int)) = true := decide_eq_true c9
            clear c9
            by_cases c10 : 0 ≤ (rd t121 x10_1)
            · rw [if_pos c10] at H
              have c10b0 : decide (0 ≤ (rd t121 x10_1)) = true := decide_eq_true c10
              clear c10
              by_cases c11 : (rd t121 x10_1) < (l0.length : Int)
              · rw [if_pos c11] at H
                have c11b0 : decide ((rd t121 x10_1) < (l0.length : Int)) = true := decide_eq_true c11
                clear c11
                by_cases c12 : x121003_1 = true
                · subst c12
                  have H1 : ((crierref06_Before.f ((rd_T54 l0 (rd t121 x10_1)).f2) ((rd_T54 l0 (rd t121 x10_1)).f1) x121001_1 x121000_1).bind fun t127 => (if t127 = true then (crierref20_Best.l0 k1 l0 t121 (t121.length : Int) (wrap64 (x10_1 + 1)) ((rd_T54 l0 (rd t121 x10_1)).f1) ((rd_T54 l0 (rd t121 x10_1)).f2) ((rd_T54 l0 (rd t121 x10_1)).f3) true) else (crierref20_Best.l0 k1 l0 t121 (t121.length : Int) (wrap64 (x10_1 + 1)) x121000_1 x121001_1 x121002_1 true))) = some (r1, r2, r3, r4) := by first | (rw [if_pos rfl] at H; exact H) | (rw [if_pos trivial] at H; exact H)
                  clear H
                  have H := H1
                  clear H1
                  replace H := Option.bind_eq_some_iff.mp H
                  obtain ⟨t127, A130, H⟩ := H
                  replace H : (if t127 = true then (crierref20_Best.l0 k1 l0 t121 (t121.length : Int) (wrap64 (x10_1 + 1)) ((rd_T54 l0 (rd t121 x10_1)).f1) ((rd_T54 l0 (rd t121 x10_1)).f2) ((rd_T54 l0 (rd t121 x10_1)).f3) true) else (crierref20_Best.l0 k1 l0 t121 (t121.length : Int) (wrap64 (x10_1 + 1)) x121000_1 x121001_1 x121002_1 true)) = some (r1, r2, r3, r4) := H
                  have A13 := Aside0.mk A130
                  clear A130
                  by_cases c14 : t127 = true
                  · subst c14
                    have H1 : (crierref20_Best.l0 k1 l0 t121 (t121.length : Int) (wrap64 (x10_1 + 1)) ((rd_T54 l0 (rd t121 x10_1)).f1) ((rd_T54 l0 (rd t121 x10_1)).f2) ((rd_T54 l0 (rd t121 x10_1)).f3) true) = some (r1, r2, r3, r4) := by first | (rw [if_pos rfl] at H; exact H) | (rw [if_pos trivial] at H; exact H)
                    clear H
                    have H := H1
                    clear H1
                    have H' := Aside0.mk H
                    clear H
                    have p124 : 0 ≤ (x10_1 : Int) := of_decide_eq_true (by first | (with_reducible assumption) | assumption)
                    have q124 : x10_1 < (t121.length : Int) := of_decide_eq_true (by first | (with_reducible assumption) | assumption)
                    obtain ⟨ad124, e124, hx124_0⟩ := Kd.at_int (Kd.R_reads' HO_8.out).2.2 x10_1 p124 q124
                    cases e124
                    replace p124 := eq_true p124
                    replace q124 := eq_true q124
                    have p125 : 0 ≤ ((rd t121 x10_1) : Int) := of_decide_eq_true (by first | (with_reducible assumption) | assumption)
                    have q125 : (rd t121 x10_1) < (l0.length : Int) := of_decide_eq_true (by first | (with_reducible assumption) | assumption)
                    obtain ⟨ad125, e125, hx125_0, hx125_1, hx125_2, hx125_3, hx125_4, hx125_5, hx125_6⟩ := at_T54 HR0.out (rd t121 x10_1) p125 q125
                    cases e125
                    replace hx125_0 := (HB.out.cell (World.block_lt_of_cell? w _ hx125_0)).trans hx125_0
                    replace hx125_1 := (HB.out.cell (World.block_lt_of_cell? w _ hx125_1)).trans hx125_1
                    replace hx125_2 := (HB.out.cell (World.block_lt_of_cell? w _ hx125_2)).trans hx125_2
                    replace hx125_3 := (HB.out.cell (World.block_lt_of_cell? w _ hx125_3)).trans hx125_3
                    replace hx125_4 := (HB.out.cell (World.block_lt_of_cell? w _ hx125_4)).trans hx125_4
                    replace hx125_5 := (HB.out.cell (World.block_lt_of_cell? w _ hx125_5)).trans hx125_5
                    replace hx125_6 := (HB.out.cell (World.block_lt_of_cell? w _ hx125_6)).trans hx125_6
                    replace p125 := eq_true p125
                    replace q125 := eq_true q125
                    go_wp2_with (first | ((with_reducible refine gate_dst (N := 6) rfl ?_); refine box_event ?hg (N := 6) ?hd (cs := #[.int .i64 0, .int .i64 0, .int .i64 0, .int .i64 0, .bool false, .int .i64 0, .bool false]) (t := 54) ?hr ?_; (case hd => rfl); (case hg => rfl); (case hr => first | (go_simp; done) | (go_simp; rfl)); intro gb126 hg w15 hbox hb; have n0_ := Aside0.mk (Kd.R_below (by (with_reducible repeat (first | apply Kd.R_alloc | apply Kd.R_drewN | apply Kd.R_drew)); exact HO_8.out) hb); have n1_ := Aside0.mk (blk_below (g := gb119) (o := .cells #[.int .i64 0, .int .i64 0, .int .i64 0, .bool false] 47 (0, 0)) (by (with_reducible repeat (first | refine blk_drewN ?_ _ | refine blk_drew ?_ | refine blk_alloc ?_ _)); exact BK119.out) hb); have n2_ := Aside0.mk (blk_below (g := gb120) (o := .cells #[.int .i64 x121000_1, .int .i64 x121001_1, .int .i64 x121002_1, .bool true] 47 (0, 0)) (by (with_reducible repeat (first | refine blk_drewN ?_ _ | refine blk_drew ?_ | refine blk_alloc ?_ _)); exact BK120.out) hb); have n3_ := Aside0.mk (below_step (by repeat (first | (with_reducible first | exact HB.out | apply below_alloc | apply pw_below_drewN | apply below_drew1 | refine below_set ?_ GE119.out | refine below_set ?_ GE120.out) | exact HB.out)) hb); have n4_ := Aside0.mk (hbox); have n5_ := Aside0.mk ((by rw [hg]; exact (below_size (by repeat (first | (with_reducible first | exact HB.out | apply below_alloc | apply pw_below_drewN | apply below_drew1 | refine below_set ?_ GE119.out | refine below_set ?_ GE120.out) | exact HB.out))) : w.heap.size ≤ gb126)); have n6_ := Aside0.mk ((by rw [hg]; exact (below_size (by repeat (first | (with_reducible first | exact HB.out | apply below_alloc | apply pw_below_drewN | apply below_drew1 | refine below_set ?_ GE119.out | refine below_set ?_ GE120.out) | exact HB.out))) : w.heap.size ≤ gb126)); have n7_ := Aside0.mk ((by rw [hg]; exact Nat.ne_of_lt (blk_lt (g := gb119) (o := .cells #[.int .i64 0, .int .i64 0, .int .i64 0, .bool false] 47 (0, 0)) (by (with_reducible repeat (first | refine blk_drewN ?_ _ | refine blk_drew ?_ | refine blk_alloc ?_ _)); exact BK119.out)) : gb119 ≠ gb126)); have n8_ := Aside0.mk ((by rw [hg]; exact Nat.ne_of_gt (blk_lt (g := gb119) (o := .cells #[.int .i64 0, .int .i64 0, .int .i64 0, .bool false] 47 (0, 0)) (by (with_reducible repeat (first | refine blk_drewN ?_ _ | refine blk_drew ?_ | refine blk_alloc ?_ _)); exact BK119.out)) : gb126 ≠ gb119)); have n9_ := Aside0.mk ((by rw [hg]; exact Nat.ne_of_lt (blk_lt (g := gb120) (o := .cells #[.int .i64 x121000_1, .int .i64 x121001_1, .int .i64 x121002_1, .bool true] 47 (0, 0)) (by (with_reducible repeat (first | refine blk_drewN ?_ _ | refine blk_drew ?_ | refine blk_alloc ?_ _)); exact BK120.out)) : gb120 ≠ gb126)); have n10_ := Aside0.mk ((by rw [hg]; exact Nat.ne_of_gt (blk_lt (g := gb120) (o := .cells #[.int .i64 x121000_1, .int .i64 x121001_1, .int .i64 x121002_1, .bool true] 47 (0, 0)) (by (with_reducible repeat (first | refine blk_drewN ?_ _ | refine blk_drew ?_ | refine blk_alloc ?_ _)); exact BK120.out)) : gb126 ≠ gb120)); clear HO_8; clear BK119; clear BK120; clear HB; have HO_8 := n0_; have BK119 := n1_; have BK120 := n2_; have HB := n3_; have BK126 := n4_; have GW126 := n5_; have GE126 := n6_; have NB119_126 := n7_; have NB126_119 := n8_; have NB120_126 := n9_; have NB126_120 := n10_; clear n0_ n1_ n2_ n3_ n4_ n5_ n6_ n7_ n8_ n9_ n10_; clear hb hbox hg; have hnb16 := NB126_119.out; have hnc16 := NB119_126.out; have hnb17 := NB126_120.out; have hnc17 := NB120_126.out; have hcz18_0 : w15.cell? ⟨gb126, 0, none⟩ = some (.int .i64 0) := (blk_cell BK126.out 0).trans rfl; have hcz18_1 : w15.cell? ⟨gb126, 1, none⟩ = some (.int .i64 0) := (blk_cell BK126.out 1).trans rfl; have hcz18_2 : w15.cell? ⟨gb126, 2, none⟩ = some (.int .i64 0) := (blk_cell BK126.out 2).trans rfl; have hcz18_3 : w15.cell? ⟨gb126, 3, none⟩ = some (.int .i64 0) := (blk_cell BK126.out 3).trans rfl; have hcz18_4 : w15.cell? ⟨gb126, 4, none⟩ = some (.bool false) := (blk_cell BK126.out 4).trans rfl; have hcz18_5 : w15.cell? ⟨gb126, 5, none⟩ = some (.int .i64 0) := (blk_cell BK126.out 5).trans rfl; have hcz18_6 : w15.cell? ⟨gb126, 6, none⟩ = some (.bool false) := (blk_cell BK126.out 6).trans rfl; have hfz18_0 := blk_frozen BK126.out 0; have hfz18_1 := blk_frozen BK126.out 1; have hfz18_2 := blk_frozen BK126.out 2; have hfz18_3 := blk_frozen BK126.out 3; have hfz18_4 := blk_frozen BK126.out 4; have hfz18_5 := blk_frozen BK126.out 5; have hfz18_6 := blk_frozen BK126.out 6) | ((with_reducible refine gate_store (t := 54) (p := 6) rfl ?_); refine store_event (t := 54) (p := 6) (v := ?vo_w19) (w1 := (((((((w15.setCell ⟨gb126, 0, none⟩ (.int .i64 ((rd_T54 l0 (rd t121 x10_1)).f0))).setCell ⟨gb126, 1, none⟩ (.int .i64 ((rd_T54 l0 (rd t121 x10_1)).f1))).setCell ⟨gb126, 2, none⟩ (.int .i64 ((rd_T54 l0 (rd t121 x10_1)).f2))).setCell ⟨gb126, 3, none⟩ (.int .i64 ((rd_T54 l0 (rd t121 x10_1)).f3))).setCell ⟨gb126, 4, none⟩ (.bool ((rd_T54 l0 (rd t121 x10_1)).f4))).setCell ⟨gb126, 5, none⟩ (.int .i64 ((rd_T54 l0 (rd t121 x10_1)).f5))).setCell ⟨gb126, 6, none⟩ (.bool ((rd_T54 l0 (rd t121 x10_1)).f6)))) ?hg ?ho ?hn ?hr ?_; (case ho => rfl); (case hg => rfl); (case hn => rfl); (case hr => first | (go_simp; done) | (go_simp; rfl)); intro w19 hw; have n0_ : Aside0 (Kd.R (Kd.int .i64) 3 w19 w.heap.size (fun _ => True) (.slice (some ad124) t121.length co6) t121) := ⟨(by rw [hw]; exact (by (with_reducible repeat (first | apply Kd.R_alloc | apply Kd.R_drewN | apply Kd.R_drew)); exact Kd.R_mono (Kd.R_far (p := ⟨gb126, 6, none⟩) (Kd.R_far (p := ⟨gb126, 5, none⟩) (Kd.R_far (p := ⟨gb126, 4, none⟩) (Kd.R_far (p := ⟨gb126, 3, none⟩) (Kd.R_far (p := ⟨gb126, 2, none⟩) (Kd.R_far (p := ⟨gb126, 1, none⟩) (Kd.R_far (p := ⟨gb126, 0, none⟩) (Kd.R_types HO_8.out BK126.out (by decide)) (fun _ hk => hk.2) (.int .i64 ((rd_T54 l0 (rd t121 x10_1)).f0))) (fun _ hk => hk.2) (.int .i64 ((rd_T54 l0 (rd t121 x10_1)).f1))) (fun _ hk => hk.2) (.int .i64 ((rd_T54 l0 (rd t121 x10_1)).f2))) (fun _ hk => hk.2) (.int .i64 ((rd_T54 l0 (rd t121 x10_1)).f3))) (fun _ hk => hk.2) (.bool ((rd_T54 l0 (rd t121 x10_1)).f4))) (fun _ hk => hk.2) (.int .i64 ((rd_T54 l0 (rd t121 x10_1)).f5))) (fun _ hk => hk.2) (.bool ((rd_T54 l0 (rd t121 x10_1)).f6))) (fun _ hk => trivial)))⟩; have n1_ : Aside0 (w19.heap[gb119]? = some (.cells #[.int .i64 0, .int .i64 0, .int .i64 0, .bool false] 47 (0, 0))) := ⟨(by rw [hw]; exact (by (with_reducible repeat (first | refine blk_drewN ?_ _ | refine blk_drew ?_ | refine blk_alloc ?_ _)); refine blk_far ?_ NB119_126.out _; (with_reducible repeat (first | refine blk_drewN ?_ _ | refine blk_drew ?_ | refine blk_alloc ?_ _)); refine blk_far ?_ NB119_126.out _; (with_reducible repeat (first | refine blk_drewN ?_ _ | refine blk_drew ?_ | refine blk_alloc ?_ _)); refine blk_far ?_ NB119_126.out _; (with_reducible repeat (first | refine blk_drewN ?_ _ | refine blk_drew ?_ | refine blk_alloc ?_ _)); refine blk_far ?_ NB119_126.out _; (with_reducible repeat (first | refine blk_drewN ?_ _ | refine blk_drew ?_ | refine blk_alloc ?_ _)); refine blk_far ?_ NB119_126.out _; (with_reducible repeat (first | refine blk_drewN ?_ _ | refine blk_drew ?_ | refine blk_alloc ?_ _)); refine blk_far ?_ NB119_126.out _; (with_reducible repeat (first | refine blk_drewN ?_ _ | refine blk_drew ?_ | refine blk_alloc ?_ _)); refine blk_far ?_ NB119_126.out _; (with_reducible repeat (first | refine blk_drewN ?_ _ | refine blk_drew ?_ | refine blk_alloc ?_ _)); exact BK119.out))⟩; have n2_ : Aside0 (w19.heap[gb120]? = some (.cells #[.int .i64 x121000_1, .int .i64 x121001_1, .int .i64 x121002_1, .bool true] 47 (0, 0))) := ⟨(by rw [hw]; exact (by (with_reducible repeat (first | refine blk_drewN ?_ _ | refine blk_drew ?_ | refine blk_alloc ?_ _)); refine blk_far ?_ NB120_126.out _; (with_reducible repeat (first | refine blk_drewN ?_ _ | refine blk_drew ?_ | refine blk_alloc ?_ _)); refine blk_far ?_ NB120_126.out _; (with_reducible repeat (first | refine blk_drewN ?_ _ | refine blk_drew ?_ | refine blk_alloc ?_ _)); refine blk_far ?_ NB120_126.out _; (with_reducible repeat (first | refine blk_drewN ?_ _ | refine blk_drew ?_ | refine blk_alloc ?_ _)); refine blk_far ?_ NB120_126.out _; (with_reducible repeat (first | refine blk_drewN ?_ _ | refine blk_drew ?_ | refine blk_alloc ?_ _)); refine blk_far ?_ NB120_126.out _; (with_reducible repeat (first | refine blk_drewN ?_ _ | refine blk_drew ?_ | refine blk_alloc ?_ _)); refine blk_far ?_ NB120_126.out _; (with_reducible repeat (first | refine blk_drewN ?_ _ | refine blk_drew ?_ | refine blk_alloc ?_ _)); refine blk_far ?_ NB120_126.out _; (with_reducible repeat (first | refine blk_drewN ?_ _ | refine blk_drew ?_ | refine blk_alloc ?_ _)); exact BK120.out))⟩; have n3_ : Aside0 (w19.heap[gb126]? = some (.cells #[.int .i64 ((rd_T54 l0 (rd t121 x10_1)).f0), .int .i64 ((rd_T54 l0 (rd t121 x10_1)).f1), .int .i64 ((rd_T54 l0 (rd t121 x10_1)).f2), .int .i64 ((rd_T54 l0 (rd t121 x10_1)).f3), .bool ((rd_T54 l0 (rd t121 x10_1)).f4), .int .i64 ((rd_T54 l0 (rd t121 x10_1)).f5), .bool ((rd_T54 l0 (rd t121 x10_1)).f6)] 54 (0, 0))) := ⟨(by rw [hw]; exact (by (with_reducible repeat (first | refine blk_drewN ?_ _ | refine blk_drew ?_ | refine blk_alloc ?_ _)); refine blk_put (cs := #[.int .i64 ((rd_T54 l0 (rd t121 x10_1)).f0), .int .i64 ((rd_T54 l0 (rd t121 x10_1)).f1), .int .i64 ((rd_T54 l0 (rd t121 x10_1)).f2), .int .i64 ((rd_T54 l0 (rd t121 x10_1)).f3), .bool ((rd_T54 l0 (rd t121 x10_1)).f4), .int .i64 ((rd_T54 l0 (rd t121 x10_1)).f5), .bool false]) ?_ 6 _ rfl; (with_reducible repeat (first | refine blk_drewN ?_ _ | refine blk_drew ?_ | refine blk_alloc ?_ _)); refine blk_put (cs := #[.int .i64 ((rd_T54 l0 (rd t121 x10_1)).f0), .int .i64 ((rd_T54 l0 (rd t121 x10_1)).f1), .int .i64 ((rd_T54 l0 (rd t121 x10_1)).f2), .int .i64 ((rd_T54 l0 (rd t121 x10_1)).f3), .bool ((rd_T54 l0 (rd t121 x10_1)).f4), .int .i64 0, .bool false]) ?_ 5 _ rfl; (with_reducible repeat (first | refine blk_drewN ?_ _ | refine blk_drew ?_ | refine blk_alloc ?_ _)); refine blk_put (cs := #[.int .i64 ((rd_T54 l0 (rd t121 x10_1)).f0), .int .i64 ((rd_T54 l0 (rd t121 x10_1)).f1), .int .i64 ((rd_T54 l0 (rd t121 x10_1)).f2), .int .i64 ((rd_T54 l0 (rd t121 x10_1)).f3), .bool false, .int .i64 0, .bool false]) ?_ 4 _ rfl; (with_reducible repeat (first | refine blk_drewN ?_ _ | refine blk_drew ?_ | refine blk_alloc ?_ _)); refine blk_put (cs := #[.int .i64 ((rd_T54 l0 (rd t121 x10_1)).f0), .int .i64 ((rd_T54 l0 (rd t121 x10_1)).f1), .int .i64 ((rd_T54 l0 (rd t121 x10_1)).f2), .int .i64 0, .bool false, .int .i64 0, .bool false]) ?_ 3 _ rfl; (with_reducible repeat (first | refine blk_drewN ?_ _ | refine blk_drew ?_ | refine blk_alloc ?_ _)); refine blk_put (cs := #[.int .i64 ((rd_T54 l0 (rd t121 x10_1)).f0), .int .i64 ((rd_T54 l0 (rd t121 x10_1)).f1), .int .i64 0, .int .i64 0, .bool false, .int .i64 0, .bool false]) ?_ 2 _ rfl; (with_reducible repeat (first | refine blk_drewN ?_ _ | refine blk_drew ?_ | refine blk_alloc ?_ _)); refine blk_put (cs := #[.int .i64 ((rd_T54 l0 (rd t121 x10_1)).f0), .int .i64 0, .int .i64 0, .int .i64 0, .bool false, .int .i64 0, .bool false]) ?_ 1 _ rfl; (with_reducible repeat (first | refine blk_drewN ?_ _ | refine blk_drew ?_ | refine blk_alloc ?_ _)); refine blk_put (cs := #[.int .i64 0, .int .i64 0, .int .i64 0, .int .i64 0, .bool false, .int .i64 0, .bool false]) ?_ 0 _ rfl; (with_reducible repeat (first | refine blk_drewN ?_ _ | refine blk_drew ?_ | refine blk_alloc ?_ _)); exact BK126.out))⟩; have n4_ : Aside0 (Below w.heap.size w w19) := ⟨(by rw [hw]; exact (by repeat (first | (with_reducible first | exact HB.out | apply below_alloc | apply pw_below_drewN | apply below_drew1 | refine below_set ?_ GE119.out | refine below_set ?_ GE120.out | refine below_set ?_ GE126.out) | exact HB.out)))⟩; clear hw; clear HO_8; clear BK119; clear BK120; clear BK126; clear HB; have HO_8 := n0_; have BK119 := n1_; have BK120 := n2_; have BK126 := n3_; have HB := n4_; clear n0_ n1_ n2_ n3_ n4_; have hnb20 := NB120_119.out; have hnc20 := NB119_120.out; have hcz21_0 : w19.cell? ⟨gb120, 0, none⟩ = some (.int .i64 x121000_1) := (blk_cell BK120.out 0).trans rfl; have hcz21_1 : w19.cell? ⟨gb120, 1, none⟩ = some (.int .i64 x121001_1) := (blk_cell BK120.out 1).trans rfl; have hcz21_2 : w19.cell? ⟨gb120, 2, none⟩ = some (.int .i64 x121002_1) := (blk_cell BK120.out 2).trans rfl; have hcz21_3 : w19.cell? ⟨gb120, 3, none⟩ = some (.bool true) := (blk_cell BK120.out 3).trans rfl; have hfz21_0 := blk_frozen BK120.out 0; have hfz21_1 := blk_frozen BK120.out 1; have hfz21_2 := blk_frozen BK120.out 2; have hfz21_3 := blk_frozen BK120.out 3; have hcz22_0 : w19.cell? ⟨gb126, 0, none⟩ = some (.int .i64 ((rd_T54 l0 (rd t121 x10_1)).f0)) := (blk_cell BK126.out 0).trans rfl; have hcz22_1 : w19.cell? ⟨gb126, 1, none⟩ = some (.int .i64 ((rd_T54 l0 (rd t121 x10_1)).f1)) := (blk_cell BK126.out 1).trans rfl; have hcz22_2 : w19.cell? ⟨gb126, 2, none⟩ = some (.int .i64 ((rd_T54 l0 (rd t121 x10_1)).f2)) := (blk_cell BK126.out 2).trans rfl; have hcz22_3 : w19.cell? ⟨gb126, 3, none⟩ = some (.int .i64 ((rd_T54 l0 (rd t121 x10_1)).f3)) := (blk_cell BK126.out 3).trans rfl; have hcz22_4 : w19.cell? ⟨gb126, 4, none⟩ = some (.bool ((rd_T54 l0 (rd t121 x10_1)).f4)) := (blk_cell BK126.out 4).trans rfl; have hcz22_5 : w19.cell? ⟨gb126, 5, none⟩ = some (.int .i64 ((rd_T54 l0 (rd t121 x10_1)).f5)) := (blk_cell BK126.out 5).trans rfl; have hcz22_6 : w19.cell? ⟨gb126, 6, none⟩ = some (.bool ((rd_T54 l0 (rd t121 x10_1)).f6)) := (blk_cell BK126.out 6).trans rfl; have hfz22_0 := blk_frozen BK126.out 0; have hfz22_1 := blk_frozen BK126.out 1; have hfz22_2 := blk_frozen BK126.out 2; have hfz22_3 := blk_frozen BK126.out 3; have hfz22_4 := blk_frozen BK126.out 4; have hfz22_5 := blk_frozen BK126.out 5; have hfz22_6 := blk_frozen BK126.out 6) | (go_at_call 81; (with_reducible refine (crierref06_Before.calls ((rd_T54 l0 (rd t121 x10_1)).f2) ((rd_T54 l0 (rd t121 x10_1)).f1) x121001_1 x121000_1 true _ A13.out).mono ?_); rintro e w' ⟨rfl, ⟨nd, rfl⟩⟩))
                    go_roundg k1
                    case measure => have := HK1.out; omega
                    case rel => exact ⟨(wrap64 (x10_1 + 1)), ((rd_T54 l0 (rd t121 x10_1)).f1), ((rd_T54 l0 (rd t121 x10_1)).f2), ((rd_T54 l0 (rd t121 x10_1)).f3), (true), (by first | rfl | (simp; done) | (simp [*]; done) | (simp; exact (IntWalk.wrap64_in _ (by decide)).symm)), H', ⟨by have := HK1.out; omega⟩, ⟨by (with_reducible repeat (first | apply Kd.R_alloc | apply Kd.R_drewN | apply Kd.R_drew)); exact Kd.R_mono (Kd.R_far (p := ⟨gb120, 3, none⟩) (Kd.R_far (p := ⟨gb120, 2, none⟩) (Kd.R_far (p := ⟨gb120, 1, none⟩) (Kd.R_far (p := ⟨gb120, 0, none⟩) (Kd.R_types HO_8.out BK120.out (by decide)) (fun _ hk => hk.2) (.int .i64 ((rd_T54 l0 (rd t121 x10_1)).f1))) (fun _ hk => hk.2) (.int .i64 ((rd_T54 l0 (rd t121 x10_1)).f2))) (fun _ hk => hk.2) (.int .i64 ((rd_T54 l0 (rd t121 x10_1)).f3))) (fun _ hk => hk.2) (.bool true)) (fun _ hk => trivial)⟩, ⟨by (with_reducible repeat (first | refine blk_drewN ?_ _ | refine blk_drew ?_ | refine blk_alloc ?_ _)); refine blk_far ?_ NB119_120.out _; (with_reducible repeat (first | refine blk_drewN ?_ _ | refine blk_drew ?_ | refine blk_alloc ?_ _)); refine blk_far ?_ NB119_120.out _; (with_reducible repeat (first | refine blk_drewN ?_ _ | refine blk_drew ?_ | refine blk_alloc ?_ _)); refine blk_far ?_ NB119_120.out _; (with_reducible repeat (first | refine blk_drewN ?_ _ | refine blk_drew ?_ | refine blk_alloc ?_ _)); refine blk_far ?_ NB119_120.out _; (with_reducible repeat (first | refine blk_drewN ?_ _ | refine blk_drew ?_ | refine blk_alloc ?_ _)); exact BK119.out⟩, ⟨by (with_reducible repeat (first | refine blk_drewN ?_ _ | refine blk_drew ?_ | refine blk_alloc ?_ _)); refine blk_put (cs := #[.int .i64 ((rd_T54 l0 (rd t121 x10_1)).f1), .int .i64 ((rd_T54 l0 (rd t121 x10_1)).f2), .int .i64 ((rd_T54 l0 (rd t121 x10_1)).f3), .bool true]) ?_ 3 _ rfl; (with_reducible repeat (first | refine blk_drewN ?_ _ | refine blk_drew ?_ | refine blk_alloc ?_ _)); refine blk_put (cs := #[.int .i64 ((rd_T54 l0 (rd t121 x10_1)).f1), .int .i64 ((rd_T54 l0 (rd t121 x10_1)).f2), .int .i64 x121002_1, .bool true]) ?_ 2 _ rfl; (with_reducible repeat (first | refine blk_drewN ?_ _ | refine blk_drew ?_ | refine blk_alloc ?_ _)); refine blk_put (cs := #[.int .i64 ((rd_T54 l0 (rd t121 x10_1)).f1), .int .i64 x121001_1, .int .i64 x121002_1, .bool true]) ?_ 1 _ rfl; (with_reducible repeat (first | refine blk_drewN ?_ _ | refine blk_drew ?_ | refine blk_alloc ?_ _)); refine blk_put (cs := #[.int .i64 x121000_1, .int .i64 x121001_1, .int .i64 x121002_1, .bool true]) ?_ 0 _ rfl; (with_reducible repeat (first | refine blk_drewN ?_ _ | refine blk_drew ?_ | refine blk_alloc ?_ _)); exact BK120.out⟩, ⟨by repeat (first | (with_reducible first | exact HB.out | apply below_alloc | apply pw_below_drewN | apply below_drew1 | refine below_set ?_ GE119.out | refine below_set ?_ GE120.out | refine below_set ?_ GE126.out) | exact HB.out)⟩⟩
                  · replace c14 := Bool.eq_false_iff.mpr c14
                    subst c14
                    have H1 : (crierref20_Best.l0 k1 l0 t121 (t121.length : Int) (wrap64 (x10_1 + 1)) x121000_1 x121001_1 x121002_1 true) = some (r1, r2, r3, r4) := by rw [if_neg (show ¬ (false = true) by decide)] at H; exact H
                    clear H
                    have H := H1
                    clear H1
                    have H' := Aside0.mk H
                    clear H
                    have p124 : 0 ≤ (x10_1 : Int) := of_decide_eq_true (by first | (with_reducible assumption) | assumption)
                    have q124 : x10_1 < (t121.length : Int) := of_decide_eq_true (by first | (with_reducible assumption) | assumption)
                    obtain ⟨ad124, e124, hx124_0⟩ := Kd.at_int (Kd.R_reads' HO_8.out).2.2 x10_1 p124 q124
                    cases e124
                    replace p124 := eq_true p124
                    replace q124 := eq_true q124
                    have p125 : 0 ≤ ((rd t121 x10_1) : Int) := of_decide_eq_true (by first | (with_reducible assumption) | assumption)
                    have q125 : (rd t121 x10_1) < (l0.length : Int) := of_decide_eq_true (by first | (with_reducible assumption) | assumption)
                    obtain ⟨ad125, e125, hx125_0, hx125_1, hx125_2, hx125_3, hx125_4, hx125_5, hx125_6⟩ := at_T54 HR0.out (rd t121 x10_1) p125 q125
                    cases e125
                    replace hx125_0 := (HB.out.cell (World.block_lt_of_cell? w _ hx125_0)).trans hx125_0
                    replace hx125_1 := (HB.out.cell (World.block_lt_of_cell? w _ hx125_1)).trans hx125_1
                    replace hx125_2 := (HB.out.cell (World.block_lt_of_cell? w _ hx125_2)).trans hx125_2
                    replace hx125_3 := (HB.out.cell (World.block_lt_of_cell? w _ hx125_3)).trans hx125_3
                    replace hx125_4 := (HB.out.cell (World.block_lt_of_cell? w _ hx125_4)).trans hx125_4
                    replace hx125_5 := (HB.out.cell (World.block_lt_of_cell? w _ hx125_5)).trans hx125_5
                    replace hx125_6 := (HB.out.cell (World.block_lt_of_cell? w _ hx125_6)).trans hx125_6
                    replace p125 := eq_true p125
                    replace q125 := eq_true q125
                    go_wp2_with (first | ((with_reducible refine gate_dst (N := 6) rfl ?_); refine box_event ?hg (N := 6) ?hd (cs := #[.int .i64 0, .int .i64 0, .int .i64 0, .int .i64 0, .bool false, .int .i64 0, .bool false]) (t := 54) ?hr ?_; (case hd => rfl); (case hg => rfl); (case hr => first | (go_simp; done) | (go_simp; rfl)); intro gb126 hg w23 hbox hb; have n0_ := Aside0.mk (Kd.R_below (by (with_reducible repeat (first | apply Kd.R_alloc | apply Kd.R_drewN | apply Kd.R_drew)); exact HO_8.out) hb); have n1_ := Aside0.mk (blk_below (g := gb119) (o := .cells #[.int .i64 0, .int .i64 0, .int .i64 0, .bool false] 47 (0, 0)) (by (with_reducible repeat (first | refine blk_drewN ?_ _ | refine blk_drew ?_ | refine blk_alloc ?_ _)); exact BK119.out) hb); have n2_ := Aside0.mk (blk_below (g := gb120) (o := .cells #[.int .i64 x121000_1, .int .i64 x121001_1, .int .i64 x121002_1, .bool true] 47 (0, 0)) (by (with_reducible repeat (first | refine blk_drewN ?_ _ | refine blk_drew ?_ | refine blk_alloc ?_ _)); exact BK120.out) hb); have n3_ := Aside0.mk (below_step (by repeat (first | (with_reducible first | exact HB.out | apply below_alloc | apply pw_below_drewN | apply below_drew1 | refine below_set ?_ GE119.out | refine below_set ?_ GE120.out) | exact HB.out)) hb); have n4_ := Aside0.mk (hbox); have n5_ := Aside0.mk ((by rw [hg]; exact (below_size (by repeat (first | (with_reducible first | exact HB.out | apply below_alloc | apply pw_below_drewN | apply below_drew1 | refine below_set ?_ GE119.out | refine below_set ?_ GE120.out) | exact HB.out))) : w.heap.size ≤ gb126)); have n6_ := Aside0.mk ((by rw [hg]; exact (below_size (by repeat (first | (with_reducible first | exact HB.out | apply below_alloc | apply pw_below_drewN | apply below_drew1 | refine below_set ?_ GE119.out | refine below_set ?_ GE120.out) | exact HB.out))) : w.heap.size ≤ gb126)); have n7_ := Aside0.mk ((by rw [hg]; exact Nat.ne_of_lt (blk_lt (g := gb119) (o := .cells #[.int .i64 0, .int .i64 0, .int .i64 0, .bool false] 47 (0, 0)) (by (with_reducible repeat (first | refine blk_drewN ?_ _ | refine blk_drew ?_ | refine blk_alloc ?_ _)); exact BK119.out)) : gb119 ≠ gb126)); have n8_ := Aside0.mk ((by rw [hg]; exact Nat.ne_of_gt (blk_lt (g := gb119) (o := .cells #[.int .i64 0, .int .i64 0, .int .i64 0, .bool false] 47 (0, 0)) (by (with_reducible repeat (first | refine blk_drewN ?_ _ | refine blk_drew ?_ | refine blk_alloc ?_ _)); exact BK119.out)) : gb126 ≠ gb119)); have n9_ := Aside0.mk ((by rw [hg]; exact Nat.ne_of_lt (blk_lt (g := gb120) (o := .cells #[.int .i64 x121000_1, .int .i64 x121001_1, .int .i64 x121002_1, .bool true] 47 (0, 0)) (by (with_reducible repeat (first | refine blk_drewN ?_ _ | refine blk_drew ?_ | refine blk_alloc ?_ _)); exact BK120.out)) : gb120 ≠ gb126)); have n10_ := Aside0.mk ((by rw [hg]; exact Nat.ne_of_gt (blk_lt (g := gb120) (o := .cells #[.int .i64 x121000_1, .int .i64 x121001_1, .int .i64 x121002_1, .bool true] 47 (0, 0)) (by (with_reducible repeat (first | refine blk_drewN ?_ _ | refine blk_drew ?_ | refine blk_alloc ?_ _)); exact BK120.out)) : gb126 ≠ gb120)); clear HO_8; clear BK119; clear BK120; clear HB; have HO_8 := n0_; have BK119 := n1_; have BK120 := n2_; have HB := n3_; have BK126 := n4_; have GW126 := n5_; have GE126 := n6_; have NB119_126 := n7_; have NB126_119 := n8_; have NB120_126 := n9_; have NB126_120 := n10_; clear n0_ n1_ n2_ n3_ n4_ n5_ n6_ n7_ n8_ n9_ n10_; clear hb hbox hg; have hnb24 := NB126_119.out; have hnc24 := NB119_126.out; have hnb25 := NB126_120.out; have hnc25 := NB120_126.out; have hcz26_0 : w23.cell? ⟨gb126, 0, none⟩ = some (.int .i64 0) := (blk_cell BK126.out 0).trans rfl; have hcz26_1 : w23.cell? ⟨gb126, 1, none⟩ = some (.int .i64 0) := (blk_cell BK126.out 1).trans rfl; have hcz26_2 : w23.cell? ⟨gb126, 2, none⟩ = some (.int .i64 0) := (blk_cell BK126.out 2).trans rfl; have hcz26_3 : w23.cell? ⟨gb126, 3, none⟩ = some (.int .i64 0) := (blk_cell BK126.out 3).trans rfl; have hcz26_4 : w23.cell? ⟨gb126, 4, none⟩ = some (.bool false) := (blk_cell BK126.out 4).trans rfl; have hcz26_5 : w23.cell? ⟨gb126, 5, none⟩ = some (.int .i64 0) := (blk_cell BK126.out 5).trans rfl; have hcz26_6 : w23.cell? ⟨gb126, 6, none⟩ = some (.bool false) := (blk_cell BK126.out 6).trans rfl; have hfz26_0 := blk_frozen BK126.out 0; have hfz26_1 := blk_frozen BK126.out 1; have hfz26_2 := blk_frozen BK126.out 2; have hfz26_3 := blk_frozen BK126.out 3; have hfz26_4 := blk_frozen BK126.out 4; have hfz26_5 := blk_frozen BK126.out 5; have hfz26_6 := blk_frozen BK126.out 6) | ((with_reducible refine gate_store (t := 54) (p := 6) rfl ?_); refine store_event (t := 54) (p := 6) (v := ?vo_w27) (w1 := (((((((w23.setCell ⟨gb126, 0, none⟩ (.int .i64 ((rd_T54 l0 (rd t121 x10_1)).f0))).setCell ⟨gb126, 1, none⟩ (.int .i64 ((rd_T54 l0 (rd t121 x10_1)).f1))).setCell ⟨gb126, 2, none⟩ (.int .i64 ((rd_T54 l0 (rd t121 x10_1)).f2))).setCell ⟨gb126, 3, none⟩ (.int .i64 ((rd_T54 l0 (rd t121 x10_1)).f3))).setCell ⟨gb126, 4, none⟩ (.bool ((rd_T54 l0 (rd t121 x10_1)).f4))).setCell ⟨gb126, 5, none⟩ (.int .i64 ((rd_T54 l0 (rd t121 x10_1)).f5))).setCell ⟨gb126, 6, none⟩ (.bool ((rd_T54 l0 (rd t121 x10_1)).f6)))) ?hg ?ho ?hn ?hr ?_; (case ho => rfl); (case hg => rfl); (case hn => rfl); (case hr => first | (go_simp; done) | (go_simp; rfl)); intro w27 hw; have n0_ : Aside0 (Kd.R (Kd.int .i64) 3 w27 w.heap.size (fun _ => True) (.slice (some ad124) t121.length co6) t121) := ⟨(by rw [hw]; exact (by (with_reducible repeat (first | apply Kd.R_alloc | apply Kd.R_drewN | apply Kd.R_drew)); exact Kd.R_mono (Kd.R_far (p := ⟨gb126, 6, none⟩) (Kd.R_far (p := ⟨gb126, 5, none⟩) (Kd.R_far (p := ⟨gb126, 4, none⟩) (Kd.R_far (p := ⟨gb126, 3, none⟩) (Kd.R_far (p := ⟨gb126, 2, none⟩) (Kd.R_far (p := ⟨gb126, 1, none⟩) (Kd.R_far (p := ⟨gb126, 0, none⟩) (Kd.R_types HO_8.out BK126.out (by decide)) (fun _ hk => hk.2) (.int .i64 ((rd_T54 l0 (rd t121 x10_1)).f0))) (fun _ hk => hk.2) (.int .i64 ((rd_T54 l0 (rd t121 x10_1)).f1))) (fun _ hk => hk.2) (.int .i64 ((rd_T54 l0 (rd t121 x10_1)).f2))) (fun _ hk => hk.2) (.int .i64 ((rd_T54 l0 (rd t121 x10_1)).f3))) (fun _ hk => hk.2) (.bool ((rd_T54 l0 (rd t121 x10_1)).f4))) (fun _ hk => hk.2) (.int .i64 ((rd_T54 l0 (rd t121 x10_1)).f5))) (fun _ hk => hk.2) (.bool ((rd_T54 l0 (rd t121 x10_1)).f6))) (fun _ hk => trivial)))⟩; have n1_ : Aside0 (w27.heap[gb119]? = some (.cells #[.int .i64 0, .int .i64 0, .int .i64 0, .bool false] 47 (0, 0))) := ⟨(by rw [hw]; exact (by (with_reducible repeat (first | refine blk_drewN ?_ _ | refine blk_drew ?_ | refine blk_alloc ?_ _)); refine blk_far ?_ NB119_126.out _; (with_reducible repeat (first | refine blk_drewN ?_ _ | refine blk_drew ?_ | refine blk_alloc ?_ _)); refine blk_far ?_ NB119_126.out _; (with_reducible repeat (first | refine blk_drewN ?_ _ | refine blk_drew ?_ | refine blk_alloc ?_ _)); refine blk_far ?_ NB119_126.out _; (with_reducible repeat (first | refine blk_drewN ?_ _ | refine blk_drew ?_ | refine blk_alloc ?_ _)); refine blk_far ?_ NB119_126.out _; (with_reducible repeat (first | refine blk_drewN ?_ _ | refine blk_drew ?_ | refine blk_alloc ?_ _)); refine blk_far ?_ NB119_126.out _; (with_reducible repeat (first | refine blk_drewN ?_ _ | refine blk_drew ?_ | refine blk_alloc ?_ _)); refine blk_far ?_ NB119_126.out _; (with_reducible repeat (first | refine blk_drewN ?_ _ | refine blk_drew ?_ | refine blk_alloc ?_ _)); refine blk_far ?_ NB119_126.out _; (with_reducible repeat (first | refine blk_drewN ?_ _ | refine blk_drew ?_ | refine blk_alloc ?_ _)); exact BK119.out))⟩; have n2_ : Aside0 (w27.heap[gb120]? = some (.cells #[.int .i64 x121000_1, .int .i64 x121001_1, .int .i64 x121002_1, .bool true] 47 (0, 0))) := ⟨(by rw [hw]; exact (by (with_reducible repeat (first | refine blk_drewN ?_ _ | refine blk_drew ?_ | refine blk_alloc ?_ _)); refine blk_far ?_ NB120_126.out _; (with_reducible repeat (first | refine blk_drewN ?_ _ | refine blk_drew ?_ | refine blk_alloc ?_ _)); refine blk_far ?_ NB120_126.out _; (with_reducible repeat (first | refine blk_drewN ?_ _ | refine blk_drew ?_ | refine blk_alloc ?_ _)); refine blk_far ?_ NB120_126.out _; (with_reducible repeat (first | refine blk_drewN ?_ _ | refine blk_drew ?_ | refine blk_alloc ?_ _)); refine blk_far ?_ NB120_126.out _; (with_reducible repeat (first | refine blk_drewN ?_ _ | refine blk_drew ?_ | refine blk_alloc ?_ _)); refine blk_far ?_ NB120_126.out _; (with_reducible repeat (first | refine blk_drewN ?_ _ | refine blk_drew ?_ | refine blk_alloc ?_ _)); refine blk_far ?_ NB120_126.out _; (with_reducible repeat (first | refine blk_drewN ?_ _ | refine blk_drew ?_ | refine blk_alloc ?_ _)); refine blk_far ?_ NB120_126.out _; (with_reducible repeat (first | refine blk_drewN ?_ _ | refine blk_drew ?_ | refine blk_alloc ?_ _)); exact BK120.out))⟩; have n3_ : Aside0 (w27.heap[gb126]? = some (.cells #[.int .i64 ((rd_T54 l0 (rd t121 x10_1)).f0), .int .i64 ((rd_T54 l0 (rd t121 x10_1)).f1), .int .i64 ((rd_T54 l0 (rd t121 x10_1)).f2), .int .i64 ((rd_T54 l0 (rd t121 x10_1)).f3), .bool ((rd_T54 l0 (rd t121 x10_1)).f4), .int .i64 ((rd_T54 l0 (rd t121 x10_1)).f5), .bool ((rd_T54 l0 (rd t121 x10_1)).f6)] 54 (0, 0))) := ⟨(by rw [hw]; exact (by (with_reducible repeat (first | refine blk_drewN ?_ _ | refine blk_drew ?_ | refine blk_alloc ?_ _)); refine blk_put (cs := #[.int .i64 ((rd_T54 l0 (rd t121 x10_1)).f0), .int .i64 ((rd_T54 l0 (rd t121 x10_1)).f1), .int .i64 ((rd_T54 l0 (rd t121 x10_1)).f2), .int .i64 ((rd_T54 l0 (rd t121 x10_1)).f3), .bool ((rd_T54 l0 (rd t121 x10_1)).f4), .int .i64 ((rd_T54 l0 (rd t121 x10_1)).f5), .bool false]) ?_ 6 _ rfl; (with_reducible repeat (first | refine blk_drewN ?_ _ | refine blk_drew ?_ | refine blk_alloc ?_ _)); refine blk_put (cs := #[.int .i64 ((rd_T54 l0 (rd t121 x10_1)).f0), .int .i64 ((rd_T54 l0 (rd t121 x10_1)).f1), .int .i64 ((rd_T54 l0 (rd t121 x10_1)).f2), .int .i64 ((rd_T54 l0 (rd t121 x10_1)).f3), .bool ((rd_T54 l0 (rd t121 x10_1)).f4), .int .i64 0, .bool false]) ?_ 5 _ rfl; (with_reducible repeat (first | refine blk_drewN ?_ _ | refine blk_drew ?_ | refine blk_alloc ?_ _)); refine blk_put (cs := #[.int .i64 ((rd_T54 l0 (rd t121 x10_1)).f0), .int .i64 ((rd_T54 l0 (rd t121 x10_1)).f1), .int .i64 ((rd_T54 l0 (rd t121 x10_1)).f2), .int .i64 ((rd_T54 l0 (rd t121 x10_1)).f3), .bool false, .int .i64 0, .bool false]) ?_ 4 _ rfl; (with_reducible repeat (first | refine blk_drewN ?_ _ | refine blk_drew ?_ | refine blk_alloc ?_ _)); refine blk_put (cs := #[.int .i64 ((rd_T54 l0 (rd t121 x10_1)).f0), .int .i64 ((rd_T54 l0 (rd t121 x10_1)).f1), .int .i64 ((rd_T54 l0 (rd t121 x10_1)).f2), .int .i64 0, .bool false, .int .i64 0, .bool false]) ?_ 3 _ rfl; (with_reducible repeat (first | refine blk_drewN ?_ _ | refine blk_drew ?_ | refine blk_alloc ?_ _)); refine blk_put (cs := #[.int .i64 ((rd_T54 l0 (rd t121 x10_1)).f0), .int .i64 ((rd_T54 l0 (rd t121 x10_1)).f1), .int .i64 0, .int .i64 0, .bool false, .int .i64 0, .bool false]) ?_ 2 _ rfl; (with_reducible repeat (first | refine blk_drewN ?_ _ | refine blk_drew ?_ | refine blk_alloc ?_ _)); refine blk_put (cs := #[.int .i64 ((rd_T54 l0 (rd t121 x10_1)).f0), .int .i64 0, .int .i64 0, .int .i64 0, .bool false, .int .i64 0, .bool false]) ?_ 1 _ rfl; (with_reducible repeat (first | refine blk_drewN ?_ _ | refine blk_drew ?_ | refine blk_alloc ?_ _)); refine blk_put (cs := #[.int .i64 0, .int .i64 0, .int .i64 0, .int .i64 0, .bool false, .int .i64 0, .bool false]) ?_ 0 _ rfl; (with_reducible repeat (first | refine blk_drewN ?_ _ | refine blk_drew ?_ | refine blk_alloc ?_ _)); exact BK126.out))⟩; have n4_ : Aside0 (Below w.heap.size w w27) := ⟨(by rw [hw]; exact (by repeat (first | (with_reducible first | exact HB.out | apply below_alloc | apply pw_below_drewN | apply below_drew1 | refine below_set ?_ GE119.out | refine below_set ?_ GE120.out | refine below_set ?_ GE126.out) | exact HB.out)))⟩; clear hw; clear HO_8; clear BK119; clear BK120; clear BK126; clear HB; have HO_8 := n0_; have BK119 := n1_; have BK120 := n2_; have BK126 := n3_; have HB := n4_; clear n0_ n1_ n2_ n3_ n4_; have hnb28 := NB120_119.out; have hnc28 := NB119_120.out; have hcz29_0 : w27.cell? ⟨gb120, 0, none⟩ = some (.int .i64 x121000_1) := (blk_cell BK120.out 0).trans rfl; have hcz29_1 : w27.cell? ⟨gb120, 1, none⟩ = some (.int .i64 x121001_1) := (blk_cell BK120.out 1).trans rfl; have hcz29_2 : w27.cell? ⟨gb120, 2, none⟩ = some (.int .i64 x121002_1) := (blk_cell BK120.out 2).trans rfl; have hcz29_3 : w27.cell? ⟨gb120, 3, none⟩ = some (.bool true) := (blk_cell BK120.out 3).trans rfl; have hfz29_0 := blk_frozen BK120.out 0; have hfz29_1 := blk_frozen BK120.out 1; have hfz29_2 := blk_frozen BK120.out 2; have hfz29_3 := blk_frozen BK120.out 3; have hcz30_0 : w27.cell? ⟨gb126, 0, none⟩ = some (.int .i64 ((rd_T54 l0 (rd t121 x10_1)).f0)) := (blk_cell BK126.out 0).trans rfl; have hcz30_1 : w27.cell? ⟨gb126, 1, none⟩ = some (.int .i64 ((rd_T54 l0 (rd t121 x10_1)).f1)) := (blk_cell BK126.out 1).trans rfl; have hcz30_2 : w27.cell? ⟨gb126, 2, none⟩ = some (.int .i64 ((rd_T54 l0 (rd t121 x10_1)).f2)) := (blk_cell BK126.out 2).trans rfl; have hcz30_3 : w27.cell? ⟨gb126, 3, none⟩ = some (.int .i64 ((rd_T54 l0 (rd t121 x10_1)).f3)) := (blk_cell BK126.out 3).trans rfl; have hcz30_4 : w27.cell? ⟨gb126, 4, none⟩ = some (.bool ((rd_T54 l0 (rd t121 x10_1)).f4)) := (blk_cell BK126.out 4).trans rfl; have hcz30_5 : w27.cell? ⟨gb126, 5, none⟩ = some (.int .i64 ((rd_T54 l0 (rd t121 x10_1)).f5)) := (blk_cell BK126.out 5).trans rfl; have hcz30_6 : w27.cell? ⟨gb126, 6, none⟩ = some (.bool ((rd_T54 l0 (rd t121 x10_1)).f6)) := (blk_cell BK126.out 6).trans rfl; have hfz30_0 := blk_frozen BK126.out 0; have hfz30_1 := blk_frozen BK126.out 1; have hfz30_2 := blk_frozen BK126.out 2; have hfz30_3 := blk_frozen BK126.out 3; have hfz30_4 := blk_frozen BK126.out 4; have hfz30_5 := blk_frozen BK126.out 5; have hfz30_6 := blk_frozen BK126.out 6) | (go_at_call 81; (with_reducible refine (crierref06_Before.calls ((rd_T54 l0 (rd t121 x10_1)).f2) ((rd_T54 l0 (rd t121 x10_1)).f1) x121001_1 x121000_1 false _ A13.out).mono ?_); rintro e w' ⟨rfl, ⟨nd, rfl⟩⟩))
                    go_roundg k1
                    case measure => have := HK1.out; omega
                    case rel => exact ⟨(wrap64 (x10_1 + 1)), (x121000_1), (x121001_1), (x121002_1), (true), (by first | rfl | (simp; done) | (simp [*]; done) | (simp; exact (IntWalk.wrap64_in _ (by decide)).symm)), H', ⟨by have := HK1.out; omega⟩, ⟨by (with_reducible repeat (first | apply Kd.R_alloc | apply Kd.R_drewN | apply Kd.R_drew)); exact HO_8.out⟩, ⟨by (with_reducible repeat (first | refine blk_drewN ?_ _ | refine blk_drew ?_ | refine blk_alloc ?_ _)); exact BK119.out⟩, ⟨by (with_reducible repeat (first | refine blk_drewN ?_ _ | refine blk_drew ?_ | refine blk_alloc ?_ _)); exact BK120.out⟩, ⟨by repeat (first | (with_reducible first | exact HB.out | apply below_alloc | apply pw_below_drewN | apply below_drew1 | refine below_set ?_ GE119.out | refine below_set ?_ GE120.out | refine below_set ?_ GE126.out) | exact HB.out)⟩⟩
                · replace c12 := Bool.eq_false_iff.mpr c12
                  subst c12
                  have H1 : (crierref20_Best.l0 k1 l0 t121 (t121.length : Int) (wrap64 (x10_1 + 1)) ((rd_T54 l0 (rd t121 x10_1)).f1) ((rd_T54 l0 (rd t121 x10_1)).f2) ((rd_T54 l0 (rd t121 x10_1)).f3) true) = some (r1, r2, r3, r4) := by rw [if_neg (show ¬ (false = true) by decide)] at H; exact H
                  clear H
                  have H := H1
                  clear H1
                  have H' := Aside0.mk H
                  clear H
                  have p124 : 0 ≤ (x10_1 : Int) := of_decide_eq_true (by first | (with_reducible assumption) | assumption)
                  have q124 : x10_1 < (t121.length : Int) := of_decide_eq_true (by first | (with_reducible assumption) | assumption)
                  obtain ⟨ad124, e124, hx124_0⟩ := Kd.at_int (Kd.R_reads' HO_8.out).2.2 x10_1 p124 q124
                  cases e124
                  replace p124 := eq_true p124
                  replace q124 := eq_true q124
                  have p125 : 0 ≤ ((rd t121 x10_1) : Int) := of_decide_eq_true (by first | (with_reducible assumption) | assumption)
                  have q125 : (rd t121 x10_1) < (l0.length : Int) := of_decide_eq_true (by first | (with_reducible assumption) | assumption)
                  obtain ⟨ad125, e125, hx125_0, hx125_1, hx125_2, hx125_3, hx125_4, hx125_5, hx125_6⟩ := at_T54 HR0.out (rd t121 x10_1) p125 q125
                  cases e125
                  replace hx125_0 := (HB.out.cell (World.block_lt_of_cell? w _ hx125_0)).trans hx125_0
                  replace hx125_1 := (HB.out.cell (World.block_lt_of_cell? w _ hx125_1)).trans hx125_1
                  replace hx125_2 := (HB.out.cell (World.block_lt_of_cell? w _ hx125_2)).trans hx125_2
                  replace hx125_3 := (HB.out.cell (World.block_lt_of_cell? w _ hx125_3)).trans hx125_3
                  replace hx125_4 := (HB.out.cell (World.block_lt_of_cell? w _ hx125_4)).trans hx125_4
                  replace hx125_5 := (HB.out.cell (World.block_lt_of_cell? w _ hx125_5)).trans hx125_5
                  replace hx125_6 := (HB.out.cell (World.block_lt_of_cell? w _ hx125_6)).trans hx125_6
                  replace p125 := eq_true p125
                  replace q125 := eq_true q125
                  go_wp2_with (first | ((with_reducible refine gate_dst (N := 6) rfl ?_); refine box_event ?hg (N := 6) ?hd (cs := #[.int .i64 0, .int .i64 0, .int .i64 0, .int .i64 0, .bool false, .int .i64 0, .bool false]) (t := 54) ?hr ?_; (case hd => rfl); (case hg => rfl); (case hr => first | (go_simp; done) | (go_simp; rfl)); intro gb126 hg w31 hbox hb; have n0_ := Aside0.mk (Kd.R_below (by (with_reducible repeat (first | apply Kd.R_alloc | apply Kd.R_drewN | apply Kd.R_drew)); exact HO_8.out) hb); have n1_ := Aside0.mk (blk_below (g := gb119) (o := .cells #[.int .i64 0, .int .i64 0, .int .i64 0, .bool false] 47 (0, 0)) (by (with_reducible repeat (first | refine blk_drewN ?_ _ | refine blk_drew ?_ | refine blk_alloc ?_ _)); exact BK119.out) hb); have n2_ := Aside0.mk (blk_below (g := gb120) (o := .cells #[.int .i64 x121000_1, .int .i64 x121001_1, .int .i64 x121002_1, .bool false] 47 (0, 0)) (by (with_reducible repeat (first | refine blk_drewN ?_ _ | refine blk_drew ?_ | refine blk_alloc ?_ _)); exact BK120.out) hb); have n3_ := Aside0.mk (below_step (by repeat (first | (with_reducible first | exact HB.out | apply below_alloc | apply pw_below_drewN | apply below_drew1 | refine below_set ?_ GE119.out | refine below_set ?_ GE120.out) | exact HB.out)) hb); have n4_ := Aside0.mk (hbox); have n5_ := Aside0.mk ((by rw [hg]; exact (below_size (by repeat (first | (with_reducible first | exact HB.out | apply below_alloc | apply pw_below_drewN | apply below_drew1 | refine below_set ?_ GE119.out | refine below_set ?_ GE120.out) | exact HB.out))) : w.heap.size ≤ gb126)); have n6_ := Aside0.mk ((by rw [hg]; exact (below_size (by repeat (first | (with_reducible first | exact HB.out | apply below_alloc | apply pw_below_drewN | apply below_drew1 | refine below_set ?_ GE119.out | refine below_set ?_ GE120.out) | exact HB.out))) : w.heap.size ≤ gb126)); have n7_ := Aside0.mk ((by rw [hg]; exact Nat.ne_of_lt (blk_lt (g := gb119) (o := .cells #[.int .i64 0, .int .i64 0, .int .i64 0, .bool false] 47 (0, 0)) (by (with_reducible repeat (first | refine blk_drewN ?_ _ | refine blk_drew ?_ | refine blk_alloc ?_ _)); exact BK119.out)) : gb119 ≠ gb126)); have n8_ := Aside0.mk ((by rw [hg]; exact Nat.ne_of_gt (blk_lt (g := gb119) (o := .cells #[.int .i64 0, .int .i64 0, .int .i64 0, .bool false] 47 (0, 0)) (by (with_reducible repeat (first | refine blk_drewN ?_ _ | refine blk_drew ?_ | refine blk_alloc ?_ _)); exact BK119.out)) : gb126 ≠ gb119)); have n9_ := Aside0.mk ((by rw [hg]; exact Nat.ne_of_lt (blk_lt (g := gb120) (o := .cells #[.int .i64 x121000_1, .int .i64 x121001_1, .int .i64 x121002_1, .bool false] 47 (0, 0)) (by (with_reducible repeat (first | refine blk_drewN ?_ _ | refine blk_drew ?_ | refine blk_alloc ?_ _)); exact BK120.out)) : gb120 ≠ gb126)); have n10_ := Aside0.mk ((by rw [hg]; exact Nat.ne_of_gt (blk_lt (g := gb120) (o := .cells #[.int .i64 x121000_1, .int .i64 x121001_1, .int .i64 x121002_1, .bool false] 47 (0, 0)) (by (with_reducible repeat (first | refine blk_drewN ?_ _ | refine blk_drew ?_ | refine blk_alloc ?_ _)); exact BK120.out)) : gb126 ≠ gb120)); clear HO_8; clear BK119; clear BK120; clear HB; have HO_8 := n0_; have BK119 := n1_; have BK120 := n2_; have HB := n3_; have BK126 := n4_; have GW126 := n5_; have GE126 := n6_; have NB119_126 := n7_; have NB126_119 := n8_; have NB120_126 := n9_; have NB126_120 := n10_; clear n0_ n1_ n2_ n3_ n4_ n5_ n6_ n7_ n8_ n9_ n10_; clear hb hbox hg; have hnb32 := NB126_119.out; have hnc32 := NB119_126.out; have hnb33 := NB126_120.out; have hnc33 := NB120_126.out; have hcz34_0 : w31.cell? ⟨gb126, 0, none⟩ = some (.int .i64 0) := (blk_cell BK126.out 0).trans rfl; have hcz34_1 : w31.cell? ⟨gb126, 1, none⟩ = some (.int .i64 0) := (blk_cell BK126.out 1).trans rfl; have hcz34_2 : w31.cell? ⟨gb126, 2, none⟩ = some (.int .i64 0) := (blk_cell BK126.out 2).trans rfl; have hcz34_3 : w31.cell? ⟨gb126, 3, none⟩ = some (.int .i64 0) := (blk_cell BK126.out 3).trans rfl; have hcz34_4 : w31.cell? ⟨gb126, 4, none⟩ = some (.bool false) := (blk_cell BK126.out 4).trans rfl; have hcz34_5 : w31.cell? ⟨gb126, 5, none⟩ = some (.int .i64 0) := (blk_cell BK126.out 5).trans rfl; have hcz34_6 : w31.cell? ⟨gb126, 6, none⟩ = some (.bool false) := (blk_cell BK126.out 6).trans rfl; have hfz34_0 := blk_frozen BK126.out 0; have hfz34_1 := blk_frozen BK126.out 1; have hfz34_2 := blk_frozen BK126.out 2; have hfz34_3 := blk_frozen BK126.out 3; have hfz34_4 := blk_frozen BK126.out 4; have hfz34_5 := blk_frozen BK126.out 5; have hfz34_6 := blk_frozen BK126.out 6) | ((with_reducible refine gate_store (t := 54) (p := 6) rfl ?_); refine store_event (t := 54) (p := 6) (v := ?vo_w35) (w1 := (((((((w31.setCell ⟨gb126, 0, none⟩ (.int .i64 ((rd_T54 l0 (rd t121 x10_1)).f0))).setCell ⟨gb126, 1, none⟩ (.int .i64 ((rd_T54 l0 (rd t121 x10_1)).f1))).setCell ⟨gb126, 2, none⟩ (.int .i64 ((rd_T54 l0 (rd t121 x10_1)).f2))).setCell ⟨gb126, 3, none⟩ (.int .i64 ((rd_T54 l0 (rd t121 x10_1)).f3))).setCell ⟨gb126, 4, none⟩ (.bool ((rd_T54 l0 (rd t121 x10_1)).f4))).setCell ⟨gb126, 5, none⟩ (.int .i64 ((rd_T54 l0 (rd t121 x10_1)).f5))).setCell ⟨gb126, 6, none⟩ (.bool ((rd_T54 l0 (rd t121 x10_1)).f6)))) ?hg ?ho ?hn ?hr ?_; (case ho => rfl); (case hg => rfl); (case hn => rfl); (case hr => first | (go_simp; done) | (go_simp; rfl)); intro w35 hw; have n0_ : Aside0 (Kd.R (Kd.int .i64) 3 w35 w.heap.size (fun _ => True) (.slice (some ad124) t121.length co6) t121) := ⟨(by rw [hw]; exact (by (with_reducible repeat (first | apply Kd.R_alloc | apply Kd.R_drewN | apply Kd.R_drew)); exact Kd.R_mono (Kd.R_far (p := ⟨gb126, 6, none⟩) (Kd.R_far (p := ⟨gb126, 5, none⟩) (Kd.R_far (p := ⟨gb126, 4, none⟩) (Kd.R_far (p := ⟨gb126, 3, none⟩) (Kd.R_far (p := ⟨gb126, 2, none⟩) (Kd.R_far (p := ⟨gb126, 1, none⟩) (Kd.R_far (p := ⟨gb126, 0, none⟩) (Kd.R_types HO_8.out BK126.out (by decide)) (fun _ hk => hk.2) (.int .i64 ((rd_T54 l0 (rd t121 x10_1)).f0))) (fun _ hk => hk.2) (.int .i64 ((rd_T54 l0 (rd t121 x10_1)).f1))) (fun _ hk => hk.2) (.int .i64 ((rd_T54 l0 (rd t121 x10_1)).f2))) (fun _ hk => hk.2) (.int .i64 ((rd_T54 l0 (rd t121 x10_1)).f3))) (fun _ hk => hk.2) (.bool ((rd_T54 l0 (rd t121 x10_1)).f4))) (fun _ hk => hk.2) (.int .i64 ((rd_T54 l0 (rd t121 x10_1)).f5))) (fun _ hk => hk.2) (.bool ((rd_T54 l0 (rd t121 x10_1)).f6))) (fun _ hk => trivial)))⟩; have n1_ : Aside0 (w35.heap[gb119]? = some (.cells #[.int .i64 0, .int .i64 0, .int .i64 0, .bool false] 47 (0, 0))) := ⟨(by rw [hw]; exact (by (with_reducible repeat (first | refine blk_drewN ?_ _ | refine blk_drew ?_ | refine blk_alloc ?_ _)); refine blk_far ?_ NB119_126.out _; (with_reducible repeat (first | refine blk_drewN ?_ _ | refine blk_drew ?_ | refine blk_alloc ?_ _)); refine blk_far ?_ NB119_126.out _; (with_reducible repeat (first | refine blk_drewN ?_ _ | refine blk_drew ?_ | refine blk_alloc ?_ _)); refine blk_far ?_ NB119_126.out _; (with_reducible repeat (first | refine blk_drewN ?_ _ | refine blk_drew ?_ | refine blk_alloc ?_ _)); refine blk_far ?_ NB119_126.out _; (with_reducible repeat (first | refine blk_drewN ?_ _ | refine blk_drew ?_ | refine blk_alloc ?_ _)); refine blk_far ?_ NB119_126.out _; (with_reducible repeat (first | refine blk_drewN ?_ _ | refine blk_drew ?_ | refine blk_alloc ?_ _)); refine blk_far ?_ NB119_126.out _; (with_reducible repeat (first | refine blk_drewN ?_ _ | refine blk_drew ?_ | refine blk_alloc ?_ _)); refine blk_far ?_ NB119_126.out _; (with_reducible repeat (first | refine blk_drewN ?_ _ | refine blk_drew ?_ | refine blk_alloc ?_ _)); exact BK119.out))⟩; have n2_ : Aside0 (w35.heap[gb120]? = some (.cells #[.int .i64 x121000_1, .int .i64 x121001_1, .int .i64 x121002_1, .bool false] 47 (0, 0))) := ⟨(by rw [hw]; exact (by (with_reducible repeat (first | refine blk_drewN ?_ _ | refine blk_drew ?_ | refine blk_alloc ?_ _)); refine blk_far ?_ NB120_126.out _; (with_reducible repeat (first | refine blk_drewN ?_ _ | refine blk_drew ?_ | refine blk_alloc ?_ _)); refine blk_far ?_ NB120_126.out _; (with_reducible repeat (first | refine blk_drewN ?_ _ | refine blk_drew ?_ | refine blk_alloc ?_ _)); refine blk_far ?_ NB120_126.out _; (with_reducible repeat (first | refine blk_drewN ?_ _ | refine blk_drew ?_ | refine blk_alloc ?_ _)); refine blk_far ?_ NB120_126.out _; (with_reducible repeat (first | refine blk_drewN ?_ _ | refine blk_drew ?_ | refine blk_alloc ?_ _)); refine blk_far ?_ NB120_126.out _; (with_reducible repeat (first | refine blk_drewN ?_ _ | refine blk_drew ?_ | refine blk_alloc ?_ _)); refine blk_far ?_ NB120_126.out _; (with_reducible repeat (first | refine blk_drewN ?_ _ | refine blk_drew ?_ | refine blk_alloc ?_ _)); refine blk_far ?_ NB120_126.out _; (with_reducible repeat (first | refine blk_drewN ?_ _ | refine blk_drew ?_ | refine blk_alloc ?_ _)); exact BK120.out))⟩; have n3_ : Aside0 (w35.heap[gb126]? = some (.cells #[.int .i64 ((rd_T54 l0 (rd t121 x10_1)).f0), .int .i64 ((rd_T54 l0 (rd t121 x10_1)).f1), .int .i64 ((rd_T54 l0 (rd t121 x10_1)).f2), .int .i64 ((rd_T54 l0 (rd t121 x10_1)).f3), .bool ((rd_T54 l0 (rd t121 x10_1)).f4), .int .i64 ((rd_T54 l0 (rd t121 x10_1)).f5), .bool ((rd_T54 l0 (rd t121 x10_1)).f6)] 54 (0, 0))) := ⟨(by rw [hw]; exact (by (with_reducible repeat (first | refine blk_drewN ?_ _ | refine blk_drew ?_ | refine blk_alloc ?_ _)); refine blk_put (cs := #[.int .i64 ((rd_T54 l0 (rd t121 x10_1)).f0), .int .i64 ((rd_T54 l0 (rd t121 x10_1)).f1), .int .i64 ((rd_T54 l0 (rd t121 x10_1)).f2), .int .i64 ((rd_T54 l0 (rd t121 x10_1)).f3), .bool ((rd_T54 l0 (rd t121 x10_1)).f4), .int .i64 ((rd_T54 l0 (rd t121 x10_1)).f5), .bool false]) ?_ 6 _ rfl; (with_reducible repeat (first | refine blk_drewN ?_ _ | refine blk_drew ?_ | refine blk_alloc ?_ _)); refine blk_put (cs := #[.int .i64 ((rd_T54 l0 (rd t121 x10_1)).f0), .int .i64 ((rd_T54 l0 (rd t121 x10_1)).f1), .int .i64 ((rd_T54 l0 (rd t121 x10_1)).f2), .int .i64 ((rd_T54 l0 (rd t121 x10_1)).f3), .bool ((rd_T54 l0 (rd t121 x10_1)).f4), .int .i64 0, .bool false]) ?_ 5 _ rfl; (with_reducible repeat (first | refine blk_drewN ?_ _ | refine blk_drew ?_ | refine blk_alloc ?_ _)); refine blk_put (cs := #[.int .i64 ((rd_T54 l0 (rd t121 x10_1)).f0), .int .i64 ((rd_T54 l0 (rd t121 x10_1)).f1), .int .i64 ((rd_T54 l0 (rd t121 x10_1)).f2), .int .i64 ((rd_T54 l0 (rd t121 x10_1)).f3), .bool false, .int .i64 0, .bool false]) ?_ 4 _ rfl; (with_reducible repeat (first | refine blk_drewN ?_ _ | refine blk_drew ?_ | refine blk_alloc ?_ _)); refine blk_put (cs := #[.int .i64 ((rd_T54 l0 (rd t121 x10_1)).f0), .int .i64 ((rd_T54 l0 (rd t121 x10_1)).f1), .int .i64 ((rd_T54 l0 (rd t121 x10_1)).f2), .int .i64 0, .bool false, .int .i64 0, .bool false]) ?_ 3 _ rfl; (with_reducible repeat (first | refine blk_drewN ?_ _ | refine blk_drew ?_ | refine blk_alloc ?_ _)); refine blk_put (cs := #[.int .i64 ((rd_T54 l0 (rd t121 x10_1)).f0), .int .i64 ((rd_T54 l0 (rd t121 x10_1)).f1), .int .i64 0, .int .i64 0, .bool false, .int .i64 0, .bool false]) ?_ 2 _ rfl; (with_reducible repeat (first | refine blk_drewN ?_ _ | refine blk_drew ?_ | refine blk_alloc ?_ _)); refine blk_put (cs := #[.int .i64 ((rd_T54 l0 (rd t121 x10_1)).f0), .int .i64 0, .int .i64 0, .int .i64 0, .bool false, .int .i64 0, .bool false]) ?_ 1 _ rfl; (with_reducible repeat (first | refine blk_drewN ?_ _ | refine blk_drew ?_ | refine blk_alloc ?_ _)); refine blk_put (cs := #[.int .i64 0, .int .i64 0, .int .i64 0, .int .i64 0, .bool false, .int .i64 0, .bool false]) ?_ 0 _ rfl; (with_reducible repeat (first | refine blk_drewN ?_ _ | refine blk_drew ?_ | refine blk_alloc ?_ _)); exact BK126.out))⟩; have n4_ : Aside0 (Below w.heap.size w w35) := ⟨(by rw [hw]; exact (by repeat (first | (with_reducible first | exact HB.out | apply below_alloc | apply pw_below_drewN | apply below_drew1 | refine below_set ?_ GE119.out | refine below_set ?_ GE120.out | refine below_set ?_ GE126.out) | exact HB.out)))⟩; clear hw; clear HO_8; clear BK119; clear BK120; clear BK126; clear HB; have HO_8 := n0_; have BK119 := n1_; have BK120 := n2_; have BK126 := n3_; have HB := n4_; clear n0_ n1_ n2_ n3_ n4_; have hnb36 := NB120_119.out; have hnc36 := NB119_120.out; have hcz37_0 : w35.cell? ⟨gb120, 0, none⟩ = some (.int .i64 x121000_1) := (blk_cell BK120.out 0).trans rfl; have hcz37_1 : w35.cell? ⟨gb120, 1, none⟩ = some (.int .i64 x121001_1) := (blk_cell BK120.out 1).trans rfl; have hcz37_2 : w35.cell? ⟨gb120, 2, none⟩ = some (.int .i64 x121002_1) := (blk_cell BK120.out 2).trans rfl; have hcz37_3 : w35.cell? ⟨gb120, 3, none⟩ = some (.bool false) := (blk_cell BK120.out 3).trans rfl; have hfz37_0 := blk_frozen BK120.out 0; have hfz37_1 := blk_frozen BK120.out 1; have hfz37_2 := blk_frozen BK120.out 2; have hfz37_3 := blk_frozen BK120.out 3; have hcz38_0 : w35.cell? ⟨gb126, 0, none⟩ = some (.int .i64 ((rd_T54 l0 (rd t121 x10_1)).f0)) := (blk_cell BK126.out 0).trans rfl; have hcz38_1 : w35.cell? ⟨gb126, 1, none⟩ = some (.int .i64 ((rd_T54 l0 (rd t121 x10_1)).f1)) := (blk_cell BK126.out 1).trans rfl; have hcz38_2 : w35.cell? ⟨gb126, 2, none⟩ = some (.int .i64 ((rd_T54 l0 (rd t121 x10_1)).f2)) := (blk_cell BK126.out 2).trans rfl; have hcz38_3 : w35.cell? ⟨gb126, 3, none⟩ = some (.int .i64 ((rd_T54 l0 (rd t121 x10_1)).f3)) := (blk_cell BK126.out 3).trans rfl; have hcz38_4 : w35.cell? ⟨gb126, 4, none⟩ = some (.bool ((rd_T54 l0 (rd t121 x10_1)).f4)) := (blk_cell BK126.out 4).trans rfl; have hcz38_5 : w35.cell? ⟨gb126, 5, none⟩ = some (.int .i64 ((rd_T54 l0 (rd t121 x10_1)).f5)) := (blk_cell BK126.out 5).trans rfl; have hcz38_6 : w35.cell? ⟨gb126, 6, none⟩ = some (.bool ((rd_T54 l0 (rd t121 x10_1)).f6)) := (blk_cell BK126.out 6).trans rfl; have hfz38_0 := blk_frozen BK126.out 0; have hfz38_1 := blk_frozen BK126.out 1; have hfz38_2 := blk_frozen BK126.out 2; have hfz38_3 := blk_frozen BK126.out 3; have hfz38_4 := blk_frozen BK126.out 4; have hfz38_5 := blk_frozen BK126.out 5; have hfz38_6 := blk_frozen BK126.out 6))
                  go_roundg k1
                  case measure => have := HK1.out; omega
                  case rel => exact ⟨(wrap64 (x10_1 + 1)), ((rd_T54 l0 (rd t121 x10_1)).f1), ((rd_T54 l0 (rd t121 x10_1)).f2), ((rd_T54 l0 (rd t121 x10_1)).f3), (true), (by first | rfl | (simp; done) | (simp [*]; done) | (simp; exact (IntWalk.wrap64_in _ (by decide)).symm)), H', ⟨by have := HK1.out; omega⟩, ⟨by (with_reducible repeat (first | apply Kd.R_alloc | apply Kd.R_drewN | apply Kd.R_drew)); exact Kd.R_mono (Kd.R_far (p := ⟨gb120, 3, none⟩) (Kd.R_far (p := ⟨gb120, 2, none⟩) (Kd.R_far (p := ⟨gb120, 1, none⟩) (Kd.R_far (p := ⟨gb120, 0, none⟩) (Kd.R_types HO_8.out BK120.out (by decide)) (fun _ hk => hk.2) (.int .i64 ((rd_T54 l0 (rd t121 x10_1)).f1))) (fun _ hk => hk.2) (.int .i64 ((rd_T54 l0 (rd t121 x10_1)).f2))) (fun _ hk => hk.2) (.int .i64 ((rd_T54 l0 (rd t121 x10_1)).f3))) (fun _ hk => hk.2) (.bool true)) (fun _ hk => trivial)⟩, ⟨by (with_reducible repeat (first | refine blk_drewN ?_ _ | refine blk_drew ?_ | refine blk_alloc ?_ _)); refine blk_far ?_ NB119_120.out _; (with_reducible repeat (first | refine blk_drewN ?_ _ | refine blk_drew ?_ | refine blk_alloc ?_ _)); refine blk_far ?_ NB119_120.out _; (with_reducible repeat (first | refine blk_drewN ?_ _ | refine blk_drew ?_ | refine blk_alloc ?_ _)); refine blk_far ?_ NB119_120.out _; (with_reducible repeat (first | refine blk_drewN ?_ _ | refine blk_drew ?_ | refine blk_alloc ?_ _)); refine blk_far ?_ NB119_120.out _; (with_reducible repeat (first | refine blk_drewN ?_ _ | refine blk_drew ?_ | refine blk_alloc ?_ _)); exact BK119.out⟩, ⟨by (with_reducible repeat (first | refine blk_drewN ?_ _ | refine blk_drew ?_ | refine blk_alloc ?_ _)); refine blk_put (cs := #[.int .i64 ((rd_T54 l0 (rd t121 x10_1)).f1), .int .i64 ((rd_T54 l0 (rd t121 x10_1)).f2), .int .i64 ((rd_T54 l0 (rd t121 x10_1)).f3), .bool false]) ?_ 3 _ rfl; (with_reducible repeat (first | refine blk_drewN ?_ _ | refine blk_drew ?_ | refine blk_alloc ?_ _)); refine blk_put (cs := #[.int .i64 ((rd_T54 l0 (rd t121 x10_1)).f1), .int .i64 ((rd_T54 l0 (rd t121 x10_1)).f2), .int .i64 x121002_1, .bool false]) ?_ 2 _ rfl; (with_reducible repeat (first | refine blk_drewN ?_ _ | refine blk_drew ?_ | refine blk_alloc ?_ _)); refine blk_put (cs := #[.int .i64 ((rd_T54 l0 (rd t121 x10_1)).f1), .int .i64 x121001_1, .int .i64 x121002_1, .bool false]) ?_ 1 _ rfl; (with_reducible repeat (first | refine blk_drewN ?_ _ | refine blk_drew ?_ | refine blk_alloc ?_ _)); refine blk_put (cs := #[.int .i64 x121000_1, .int .i64 x121001_1, .int .i64 x121002_1, .bool false]) ?_ 0 _ rfl; (with_reducible repeat (first | refine blk_drewN ?_ _ | refine blk_drew ?_ | refine blk_alloc ?_ _)); exact BK120.out⟩, ⟨by repeat (first | (with_reducible first | exact HB.out | apply below_alloc | apply pw_below_drewN | apply below_drew1 | refine below_set ?_ GE119.out | refine below_set ?_ GE120.out | refine below_set ?_ GE126.out) | exact HB.out)⟩⟩
              · rw [if_neg c11] at H
                exact absurd H (by simp)
            · rw [if_neg c10] at H
              exact absurd H (by simp)
          · rw [if_neg c9] at H
            exact absurd H (by simp)
        · rw [if_neg c8] at H
          exact absurd H (by simp)
      · rw [if_neg c7] at H
        have c7b0 : decide (x10_1 < (t121.length : Int)) = false := decide_eq_false c7
        clear c7
        simp only [Option.some.injEq, Prod.mk.injEq] at H
        obtain ⟨rfl, rfl, rfl, rfl⟩ := H
        have hnb39 := NB120_119.out
        have hnc39 := NB119_120.out
        have hcz40_0 : wr.cell? ⟨gb120, 0, none⟩ = some (.int .i64 x121000_1) := (blk_cell BK120.out 0).trans rfl
        have hcz40_1 : wr.cell? ⟨gb120, 1, none⟩ = some (.int .i64 x121001_1) := (blk_cell BK120.out 1).trans rfl
        have hcz40_2 : wr.cell? ⟨gb120, 2, none⟩ = some (.int .i64 x121002_1) := (blk_cell BK120.out 2).trans rfl
        have hcz40_3 : wr.cell? ⟨gb120, 3, none⟩ = some (.bool x121003_1) := (blk_cell BK120.out 3).trans rfl
        have hfz40_0 := blk_frozen BK120.out 0
        have hfz40_1 := blk_frozen BK120.out 1
        have hfz40_2 := blk_frozen BK120.out 2
        have hfz40_3 := blk_frozen BK120.out 3
        have hcz41_0 : wr.cell? ⟨gb119, 0, none⟩ = some (.int .i64 0) := (blk_cell BK119.out 0).trans rfl
        have hcz41_1 : wr.cell? ⟨gb119, 1, none⟩ = some (.int .i64 0) := (blk_cell BK119.out 1).trans rfl
        have hcz41_2 : wr.cell? ⟨gb119, 2, none⟩ = some (.int .i64 0) := (blk_cell BK119.out 2).trans rfl
        have hcz41_3 : wr.cell? ⟨gb119, 3, none⟩ = some (.bool false) := (blk_cell BK119.out 3).trans rfl
        have hfz41_0 := blk_frozen BK119.out 0
        have hfz41_1 := blk_frozen BK119.out 1
        have hfz41_2 := blk_frozen BK119.out 2
        have hfz41_3 := blk_frozen BK119.out 3
        go_wp2
        refine bodyPost_ret (results_cell_row rfl _ _ gb119 47 #[.int .i64 x121000_1, .int .i64 x121001_1, .int .i64 x121002_1, .bool x121003_1] (0, 0) _ rfl (by (with_reducible repeat (first | refine blk_drewN ?_ _ | refine blk_drew ?_ | refine blk_alloc ?_ _)); refine blk_put (cs := #[.int .i64 x121000_1, .int .i64 x121001_1, .int .i64 x121002_1, .bool false]) ?_ 3 _ rfl; (with_reducible repeat (first | refine blk_drewN ?_ _ | refine blk_drew ?_ | refine blk_alloc ?_ _)); refine blk_put (cs := #[.int .i64 x121000_1, .int .i64 x121001_1, .int .i64 0, .bool false]) ?_ 2 _ rfl; (with_reducible repeat (first | refine blk_drewN ?_ _ | refine blk_drew ?_ | refine blk_alloc ?_ _)); refine blk_put (cs := #[.int .i64 x121000_1, .int .i64 0, .int .i64 0, .bool false]) ?_ 1 _ rfl; (with_reducible repeat (first | refine blk_drewN ?_ _ | refine blk_drew ?_ | refine blk_alloc ?_ _)); refine blk_put (cs := #[.int .i64 0, .int .i64 0, .int .i64 0, .bool false]) ?_ 0 _ rfl; (with_reducible repeat (first | refine blk_drewN ?_ _ | refine blk_drew ?_ | refine blk_alloc ?_ _)); exact BK119.out) Try.underlying47 rfl (by kernel_rfl)) rfl ?_
        exact ⟨by first | rfl | (simp [errW_none, errW_some] <;> rfl) | (simp [*, errW_none, errW_some] <;> rfl), by repeat (first | (with_reducible first | exact HB.out | apply below_alloc | apply pw_below_drewN | apply below_drew1 | refine below_set ?_ GE119.out | refine below_set ?_ GE120.out) | exact HB.out)⟩
end Go.Proofs.Ytkbaghblchlcnaa.IAll
-- Written by the program wip/gen/inj.py of this repository, out of the translation, for this claim. Not trusted: Lean checks it.
namespace Go.Proofs.Ytkbaghblchlcnaa.IAll
open Go.RowKit Go.Proofs.YtkbaghblchlcnaaW.PrintWords Go.Proofs.YtkbaghblchlcnaaW.PrintLast Go.Proofs.YtkbaghblchlcnaaW.PrintMore
attribute [local go_sem] max2_int min2_int max_two min_two max_three min_three max_four min_four   -- for this text's walks alone
set_option linter.unusedVariables false
set_option linter.unusedSimpArgs false
/-! ### crierref08_place: function 106 -/
-- NOT PRINTED: function 101 (crierref08_Ladder_Set)
-- NOT PRINTED: function 92 (crierref14_If_Take)
/-! ### crierref20_Find: function 93 -/
def crierref20_Find.l0 : Nat → List (S54) → Int → Int → Option (Int)
  | 0, _, _, _ => none
  | k + 1, x0, x1, x5 => if x5 < (x0.length : Int) then (if 0 ≤ x5 then (if ((rd_T54 x0 x5).f0) = 0 then (crierref20_Find.l0 k x0 x1 (wrap64 (x5 + 1))) else (if ((rd_T54 x0 x5).f1) = x1 then (some x5) else (crierref20_Find.l0 k x0 x1 (wrap64 (x5 + 1))))) else (none)) else (some (-1))
def crierref20_Find.f (k : Nat) (l0 : List (S54)) (a1 : Int) : Option (Int) := crierref20_Find.l0 k l0 a1 0
set_option maxHeartbeats 8000000 in
set_option maxRecDepth 100000 in
theorem crierref20_Find.calls (k : Nat) (A0 : Option Addr) (c0 : Nat) (l0 : List (S54)) (a1 : Int) (r : Int) (w : World) (hr0 : Kd.C k54 w A0 l0.length l0) (hc0 : l0.length ≤ c0) (h : crierref20_Find.f k l0 a1 = some r) :
    Calls Try.prog 93 #[.slice A0 l0.length c0, .int .i64 a1] w fun e w' => e = .returned (.int .i64 r) ∧ Drawn0 w w' := by
  have HR0 := Aside0.mk hr0
  have HC0 := Aside0.mk hc0
  clear hr0 hc0
  have H : (crierref20_Find.l0 k l0 a1 0) = some r := h
  clear h
  have H' := Aside0.mk H
  clear H
  go_enter Try.func93, Try.ntmps93
  go_wp2
  go_loopg [5] k (fun kq v5 w' => ∃ (x5_1 : Int), v5 = .int .i64 x5_1 ∧ Aside0 (crierref20_Find.l0 kq l0 a1 x5_1 = some r) ∧ Aside0 (kq ≤ k) ∧ Drawn0 w w')
  case atStart => exact ⟨(0), (by first | rfl | (simp; done) | (simp [*]; done) | (simp; exact (IntWalk.wrap64_in _ (by decide)).symm)), H', ⟨Nat.le_refl _⟩, by repeat (first | exact Drawn0.refl _ | apply Drawn0.step)⟩
  case round =>
    clear H'
    try clear p2
    obtain ⟨x5_1, rfl, HA, HK1, ⟨m1, rfl⟩⟩ := hrel
    cases gk with
    | zero => exact absurd HA.out (by simp [crierref20_Find.l0])
    | succ k1 =>
      have H := HA.out
      clear HA
      simp only [crierref20_Find.l0] at H
      by_cases c3 : x5_1 < (l0.length : Int)
      · rw [if_pos c3] at H
        have c3b0 : decide (x5_1 < (l0.length : Int)) = true := decide_eq_true c3
        clear c3
        by_cases c4 : 0 ≤ x5_1
        · rw [if_pos c4] at H
          have c4b0 : decide (0 ≤ x5_1) = true := decide_eq_true c4
          clear c4
          by_cases c5 : ((rd_T54 l0 x5_1).f0) = 0
          · rw [if_pos c5] at H
            have c5b0 : (((rd_T54 l0 x5_1).f0) == 0) = true := beq_iff_eq.mpr c5
            have c5b1 : (((rd_T54 l0 x5_1).f0) != 0) = false := bne_eq_false_iff_eq.mpr c5
            clear c5
            have H' := Aside0.mk H
            clear H
            have p146 : 0 ≤ (x5_1 : Int) := of_decide_eq_true (by first | (with_reducible assumption) | assumption)
            have q146 : x5_1 < (l0.length : Int) := of_decide_eq_true (by first | (with_reducible assumption) | assumption)
            obtain ⟨ad146, e146, hx146_0, hx146_1, hx146_2, hx146_3, hx146_4, hx146_5, hx146_6⟩ := at_T54 HR0.out x5_1 p146 q146
            cases e146
            replace p146 := eq_true p146
            replace q146 := eq_true q146
            go_wp2
            go_roundg k1
            case measure => have := HK1.out; omega
            case rel => exact ⟨(wrap64 (x5_1 + 1)), (by first | rfl | (simp; done) | (simp [*]; done) | (simp; exact (IntWalk.wrap64_in _ (by decide)).symm)), H', ⟨by have := HK1.out; omega⟩, by repeat (first | exact Drawn0.refl _ | apply Drawn0.step)⟩
          · rw [if_neg c5] at H
            have c5b0 : (((rd_T54 l0 x5_1).f0) == 0) = false := beq_eq_false_iff_ne.mpr c5
            have c5b1 : (((rd_T54 l0 x5_1).f0) != 0) = true := bne_iff_ne.mpr c5
            by_cases c6 : ((rd_T54 l0 x5_1).f1) = a1
            · rw [if_pos c6] at H
              have c6b0 : (((rd_T54 l0 x5_1).f1) == a1) = true := beq_iff_eq.mpr c6
              have c6b1 : (((rd_T54 l0 x5_1).f1) != a1) = false := bne_eq_false_iff_eq.mpr c6
              clear c6
              obtain rfl := Option.some.inj H
              have p146 : 0 ≤ (x5_1 : Int) := of_decide_eq_true (by first | (with_reducible assumption) | assumption)
              have q146 : x5_1 < (l0.length : Int) := of_decide_eq_true (by first | (with_reducible assumption) | assumption)
              obtain ⟨ad146, e146, hx146_0, hx146_1, hx146_2, hx146_3, hx146_4, hx146_5, hx146_6⟩ := at_T54 HR0.out x5_1 p146 q146
              cases e146
              replace p146 := eq_true p146
              replace q146 := eq_true q146
              have p147 : 0 ≤ (x5_1 : Int) := of_decide_eq_true (by first | (with_reducible assumption) | assumption)
              have q147 : x5_1 < (l0.length : Int) := of_decide_eq_true (by first | (with_reducible assumption) | assumption)
              obtain ⟨ad147, e147, hx147_0, hx147_1, hx147_2, hx147_3, hx147_4, hx147_5, hx147_6⟩ := at_T54 HR0.out x5_1 p147 q147
              obtain rfl : ad146 = ad147 := (by injection e147)
              replace p147 := eq_true p147
              replace q147 := eq_true q147
              go_wp2
              go_ret
              exact ⟨by first | rfl | (simp; done) | (simp [*]; done), by repeat (first | exact Drawn0.refl _ | apply Drawn0.step)⟩
            · rw [if_neg c6] at H
              have c6b0 : (((rd_T54 l0 x5_1).f1) == a1) = false := beq_eq_false_iff_ne.mpr c6
              have c6b1 : (((rd_T54 l0 x5_1).f1) != a1) = true := bne_iff_ne.mpr c6
              have H' := Aside0.mk H
              clear H
              have p146 : 0 ≤ (x5_1 : Int) := of_decide_eq_true (by first | (with_reducible assumption) | assumption)
              have q146 : x5_1 < (l0.length : Int) := of_decide_eq_true (by first | (with_reducible assumption) | assumption)
              obtain ⟨ad146, e146, hx146_0, hx146_1, hx146_2, hx146_3, hx146_4, hx146_5, hx146_6⟩ := at_T54 HR0.out x5_1 p146 q146
              cases e146
              replace p146 := eq_true p146
              replace q146 := eq_true q146
              have p147 : 0 ≤ (x5_1 : Int) := of_decide_eq_true (by first | (with_reducible assumption) | assumption)
              have q147 : x5_1 < (l0.length : Int) := of_decide_eq_true (by first | (with_reducible assumption) | assumption)
              obtain ⟨ad147, e147, hx147_0, hx147_1, hx147_2, hx147_3, hx147_4, hx147_5, hx147_6⟩ := at_T54 HR0.out x5_1 p147 q147
              obtain rfl : ad146 = ad147 := (by injection e147)
              replace p147 := eq_true p147
              replace q147 := eq_true q147
              go_wp2
              go_roundg k1
              case measure => have := HK1.out; omega
              case rel => exact ⟨(wrap64 (x5_1 + 1)), (by first | rfl | (simp; done) | (simp [*]; done) | (simp; exact (IntWalk.wrap64_in _ (by decide)).symm)), H', ⟨by have := HK1.out; omega⟩, by repeat (first | exact Drawn0.refl _ | apply Drawn0.step)⟩
        · rw [if_neg c4] at H
          exact absurd H (by simp)
      · rw [if_neg c3] at H
        have c3b0 : decide (x5_1 < (l0.length : Int)) = false := decide_eq_false c3
        clear c3
        obtain rfl := Option.some.inj H
        go_wp2
        go_ret
        exact ⟨by first | rfl | (simp; done) | (simp [*]; done), by repeat (first | exact Drawn0.refl _ | apply Drawn0.step)⟩
-- NOT PRINTED: function 84 (crierref21_Vcpu_Ack)
-- NOT PRINTED: function 85 (crierref14_If_Shows)
/-! ### crierref14_one: function 94 -/
-- NOT PRINTED: function 86 (crierref14_If_Read)
end Go.Proofs.Ytkbaghblchlcnaa.IAll
namespace Go.Proofs.Ytkbaghblchlcnaa.Lr
open Go.RowKit Go.Proofs.Ytkbaghblchlcnaa.IAll Go.Proofs.YtkbaghblchlcnaaW.PrintWords Go.Proofs.YtkbaghblchlcnaaW.PrintLast Go.Proofs.YtkbaghblchlcnaaW.PrintMore
theorem more_rounds {α : Type} {f : Nat → Option α} (hm : ∀ k, LeO (f k) (f (k + 1))) {k K : Nat} {r : α} (h : f k = some r) (hk : k ≤ K) : f K = some r := by
  obtain ⟨d, rfl⟩ : ∃ d, K = k + d := ⟨K - k, by omega⟩
  clear hk
  induction d with
  | zero => exact h
  | succ d ih => exact hm (k + d) r ih
theorem stp (i : Nat) (h : i < 16) : wrap64 ((i : Int) + 1) = ((i + 1 : Nat) : Int) := by rw [w64 _ (by omega)]; simp
theorem l_Waits (xs : List S54) (hl : xs.length ≤ 16) (m : Nat) : ∀ i : Nat, i + m = xs.length → crierref20_Waits.l0 (m + 1) xs (pl pWaits xs i) (i : Int) = some (places pWaits xs) := by
  induction m with
  | zero =>
    intro i hi
    obtain rfl : i = xs.length := by omega
    rw [crierref20_Waits.l0, if_neg (by omega)]; rfl
  | succ m ih =>
    intro i hi
    have hw := stp i (by omega)
    have e1 : (i : Int) < (xs.length : Int) := by clear hw; omega
    have e2 : (0 : Int) ≤ (i : Int) := by clear hw; omega
    have hlen : (pl pWaits xs i).length < 17592186044416 := by have := pl_length pWaits xs i; clear hw; omega
    have plT : pWaits (rd_T54 xs i) = true → pl pWaits xs i ++ [(i : Int)] = pl pWaits xs (i + 1) := fun h => by rw [pl, if_pos h]
    have plF : ¬ pWaits (rd_T54 xs i) = true → pl pWaits xs (i + 1) = pl pWaits xs i := fun h => by rw [pl, if_neg h, List.append_nil]
    rw [crierref20_Waits.l0, if_pos e1, if_pos e2]
    clear e1 e2
    by_cases h : (rd_T54 xs i).f0 = 1
    · have hp : pWaits (rd_T54 xs i) = true := by unfold pWaits; simp [h]
      rw [if_pos h, if_pos hlen, hw, plT hp]; exact ih (i + 1) (by omega)
    · have hp : ¬ pWaits (rd_T54 xs i) = true := by unfold pWaits; simp [h]
      rw [if_neg h, hw, ← plF hp]; exact ih (i + 1) (by omega)
theorem Waits_is (xs : List S54) (hl : xs.length ≤ 16) : crierref20_Waits.f (xs.length + 1) xs = some (places pWaits xs) := l_Waits xs hl xs.length 0 (by omega)
theorem pl_none (p : S54 → Bool) (xs : List S54) (n : Nat) (h : ∀ j : Nat, j < n → ¬ p (rd_T54 xs j) = true) : pl p xs n = [] := by
  induction n with
  | zero => rfl
  | succ n ih => rw [pl, ih (fun j hj => h j (by omega)), if_neg (h n (by omega))]; rfl
theorem find_first (xs : List S54) (id : Int) (i : Nat) (hi : i < xs.length) (h : pFind id (rd_T54 xs i) = true) (hb : ∀ j : Nat, j < i → ¬ pFind id (rd_T54 xs j) = true) : findOf xs id = (i : Int) := by
  obtain ⟨post, hp⟩ := places_at (pFind id) xs i hi h
  unfold findOf
  rw [hp, pl_none _ _ _ hb]; rfl
theorem find_none (xs : List S54) (id : Int) (hb : ∀ j : Nat, j < xs.length → ¬ pFind id (rd_T54 xs j) = true) : findOf xs id = -1 := by
  unfold findOf places
  rw [pl_none _ _ _ hb]; rfl
theorem l_Find (xs : List S54) (hl : xs.length ≤ 16) (id : Int) (m : Nat) : ∀ i : Nat, i + m = xs.length → (∀ j : Nat, j < i → ¬ pFind id (rd_T54 xs j) = true) → crierref20_Find.l0 (m + 1) xs id (i : Int) = some (findOf xs id) := by
  induction m with
  | zero =>
    intro i hi hb
    obtain rfl : i = xs.length := by omega
    rw [crierref20_Find.l0, if_neg (by omega), find_none xs id hb]
  | succ m ih =>
    intro i hi hb
    have hw := stp i (by omega)
    have e1 : (i : Int) < (xs.length : Int) := by clear hw; omega
    have e2 : (0 : Int) ≤ (i : Int) := by clear hw; omega
    rw [crierref20_Find.l0, if_pos e1, if_pos e2]
    have next : ¬ pFind id (rd_T54 xs i) = true → ∀ j : Nat, j < i + 1 → ¬ pFind id (rd_T54 xs j) = true := fun h j hj => by
      by_cases e : j = i
      · subst e; exact h
      · exact hb j (by clear hw; omega)
    by_cases h : (rd_T54 xs i).f0 = 0
    · have hp : ¬ pFind id (rd_T54 xs i) = true := by unfold pFind; simp [h]
      rw [if_pos h, hw]; exact ih (i + 1) (by omega) (next hp)
    · rw [if_neg h]
      by_cases h2 : (rd_T54 xs i).f1 = id
      · have hp : pFind id (rd_T54 xs i) = true := by unfold pFind; simp [h, h2]
        rw [if_pos h2, find_first xs id i (by omega) hp hb]
      · have hp : ¬ pFind id (rd_T54 xs i) = true := by unfold pFind; simp [h2]
        rw [if_neg h2, hw]; exact ih (i + 1) (by omega) (next hp)
theorem Find_is (xs : List S54) (hl : xs.length ≤ 16) (id : Int) : crierref20_Find.f (xs.length + 1) xs id = some (findOf xs id) := l_Find xs hl id xs.length 0 (by omega) (fun j hj => by omega)
/-- the best one -/
theorem before_is (p a q b : Int) : crierref06_Before.f p a q b = some (before p a q b) := by
  unfold crierref06_Before.f before
  by_cases h : p = q
  · subst h; rw [if_pos rfl]; simp
  · rw [if_neg h]; simp [h]
theorem l_Best (xs : List S54) (ws : List Int) (hws : ∀ x ∈ ws, 0 ≤ x ∧ x < xs.length) (hl : ws.length ≤ 16) (m : Nat) : ∀ (i : Nat) (c : Cand), i + m = ws.length →
    crierref20_Best.l0 (m + 1) xs ws (ws.length : Int) (i : Int) c.id c.pr c.gr c.is = some (((ws.drop i).foldl (bestStep xs) c).id, ((ws.drop i).foldl (bestStep xs) c).pr, ((ws.drop i).foldl (bestStep xs) c).gr, ((ws.drop i).foldl (bestStep xs) c).is) := by
  induction m with
  | zero =>
    intro i c hi
    rw [crierref20_Best.l0, if_neg (by omega), List.drop_of_length_le (by omega)]; rfl
  | succ m ih =>
    intro i c hi
    have hw := stp i (by omega)
    have hil : i < ws.length := by clear hw; omega
    have e1 : (i : Int) < (ws.length : Int) := by clear hw; omega
    have e2 : (0 : Int) ≤ (i : Int) := by clear hw; omega
    have er : rd ws (i : Int) = ws[i] := by unfold rd; simp [hil]
    obtain ⟨b1, b2⟩ := hws ws[i] (List.getElem_mem hil)
    rw [crierref20_Best.l0, if_pos e1, if_pos e2, if_pos e1, er, if_pos b1, if_pos b2, List.drop_eq_getElem_cons hil, List.foldl_cons, hw]
    clear hw e1 e2 er b1 b2
    generalize ws[i] = x
    have key := ih (i + 1) (bestStep xs c x) (by omega)
    rw [before_is]
    simp only [Option.bind_some]
    unfold bestStep at key ⊢
    cases hc : c.is with
    | false =>
      rw [hc] at key
      simp only [Bool.not_false, Bool.true_or, if_true] at key ⊢
      exact key
    | true =>
      rw [hc] at key
      simp only [Bool.not_true, Bool.false_or, if_true] at key ⊢
      by_cases hb : before (rd_T54 xs x).f2 (rd_T54 xs x).f1 c.pr c.id = true
      · simp only [hb, if_true] at key ⊢
        exact key
      · simp only [hb, if_false, Bool.false_eq_true] at key ⊢
        rw [hc] at key
        exact key
theorem Best_is (xs : List S54) (hl : xs.length ≤ 16) : crierref20_Best.f 40 xs = some ((bestOf xs (places pWaits xs)).id, (bestOf xs (places pWaits xs)).pr, (bestOf xs (places pWaits xs)).gr, (bestOf xs (places pWaits xs)).is) := by
  unfold crierref20_Best.f
  have h1 := more_rounds (fun k => crierref20_Waits.mono xs k) (Waits_is xs hl) (show xs.length + 1 ≤ 40 by omega)
  rw [h1]
  simp only [Option.bind_some]
  have hlen : (places pWaits xs).length ≤ 16 := by have := pl_length pWaits xs xs.length; exact Nat.le_trans this hl
  have h2 := l_Best xs (places pWaits xs) (fun x hx => by have := pl_mem pWaits xs xs.length x hx; exact ⟨this.1, this.2.1⟩) hlen (places pWaits xs).length 0 Cand.zero (by omega)
  exact more_rounds (fun k => (crierref20_Best.mono_l k) _ _ _ _ _ _ _ _) h2 (by omega)
end Go.Proofs.Ytkbaghblchlcnaa.Lr
namespace Go.Proofs.Ytkbaghblchlcnaa.Lr
open Go.RowKit Go.Proofs.Ytkbaghblchlcnaa.IAll Go.Proofs.YtkbaghblchlcnaaW.PrintWords Go.Proofs.YtkbaghblchlcnaaW.PrintLast Go.Proofs.YtkbaghblchlcnaaW.PrintMore
theorem rinner (l : List S54) (hl : l.length ≤ 16) (i : Nat) (hi : i < l.length) (m : Nat) : ∀ (K j : Nat), j + m = i →
    ((∃ q : Nat, j ≤ q ∧ q < i ∧ clash (rd_T54 l i) (rd_T54 l q)) → crierref20_Right.l1 (m + 1 + K) l (i : Int) (j : Int) = some 200) ∧
    ((¬ ∃ q : Nat, j ≤ q ∧ q < i ∧ clash (rd_T54 l i) (rd_T54 l q)) → crierref20_Right.l1 (m + 1 + K) l (i : Int) (j : Int) = crierref20_Right.l0 K l ((i + 1 : Nat) : Int)) := by
  induction m with
  | zero =>
    intro K j hj
    have hw := stp i (by omega)
    rw [show 0 + 1 + K = K + 1 by omega, crierref20_Right.l1, if_neg (show ¬ (j : Int) < (i : Int) by omega), hw]
    exact ⟨fun ⟨q, h1, h2, _⟩ => by omega, fun _ => rfl⟩
  | succ m ih =>
    intro K j hj
    have hw := stp j (by omega)
    have hji : j < i := by clear hw ih; omega
    have e1 : (j : Int) < (i : Int) := Int.ofNat_lt.2 hji
    have e2 : (0 : Int) ≤ (j : Int) := Int.natCast_nonneg j
    have e3 : (i : Int) < (l.length : Int) := Int.ofNat_lt.2 hi
    have e4 : (0 : Int) ≤ (i : Int) := Int.natCast_nonneg i
    have e5 : (j : Int) < (l.length : Int) := Int.lt_trans e1 e3
    rw [show m + 1 + 1 + K = (m + 1 + K) + 1 by omega, crierref20_Right.l1, if_pos e1, if_pos e4, if_pos e3, if_pos e2, if_pos e5, hw]
    clear hw
    obtain ⟨i1, i2⟩ := ih K (j + 1) (by omega)
    have split : (∃ q : Nat, j ≤ q ∧ q < i ∧ clash (rd_T54 l i) (rd_T54 l q)) ↔ clash (rd_T54 l i) (rd_T54 l j) ∨ ∃ q : Nat, j + 1 ≤ q ∧ q < i ∧ clash (rd_T54 l i) (rd_T54 l q) := by
      constructor
      · rintro ⟨q, h1, h2, h3⟩
        by_cases e : q = j
        · subst e; exact .inl h3
        · exact .inr ⟨q, by omega, h2, h3⟩
      · rintro (h | ⟨q, h1, h2, h3⟩)
        · exact ⟨j, Nat.le_refl _, hji, h⟩
        · exact ⟨q, by omega, h2, h3⟩
    rw [split]
    by_cases c1 : (rd_T54 l i).f0 = 0
    · rw [if_pos c1]
      have hn : ¬ clash (rd_T54 l i) (rd_T54 l j) := fun h => h.1 c1
      exact ⟨fun h => i1 (h.resolve_left hn), fun h => i2 (fun h' => h (.inr h'))⟩
    · rw [if_neg c1]
      by_cases c2 : (rd_T54 l j).f0 = 0
      · rw [if_pos c2]
        have hn : ¬ clash (rd_T54 l i) (rd_T54 l j) := fun h => h.2.1 c2
        exact ⟨fun h => i1 (h.resolve_left hn), fun h => i2 (fun h' => h (.inr h'))⟩
      · rw [if_neg c2]
        by_cases c3 : (rd_T54 l i).f1 = (rd_T54 l j).f1
        · rw [if_pos c3]
          exact ⟨fun _ => rfl, fun h => absurd (.inl ⟨c1, c2, c3⟩) h⟩
        · rw [if_neg c3]
          have hn : ¬ clash (rd_T54 l i) (rd_T54 l j) := fun h => c3 h.2.2
          exact ⟨fun h => i1 (h.resolve_left hn), fun h => i2 (fun h' => h (.inr h'))⟩
theorem router (l : List S54) (hl : l.length ≤ 16) (m : Nat) : ∀ (K i : Nat), i + m = l.length →
    ((∃ a : Nat, i ≤ a ∧ a < l.length ∧ badAt l a) → crierref20_Right.l0 (20 * m + 3 + K) l (i : Int) = some 200) ∧
    ((¬ ∃ a : Nat, i ≤ a ∧ a < l.length ∧ badAt l a) → crierref20_Right.l0 (20 * m + 3 + K) l (i : Int) = some 0) := by
  induction m with
  | zero =>
    intro K i hi
    rw [show 20 * 0 + 3 + K = (K + 2) + 1 by omega, crierref20_Right.l0, if_neg (show ¬ (i : Int) < (l.length : Int) by omega)]
    exact ⟨fun ⟨q, h1, h2, _⟩ => by omega, fun _ => rfl⟩
  | succ m ih =>
    intro K i hi
    have hil : i < l.length := by clear ih; omega
    have e1 : (i : Int) < (l.length : Int) := Int.ofNat_lt.2 hil
    have e2 : (0 : Int) ≤ (i : Int) := Int.natCast_nonneg i
    rw [show 20 * (m + 1) + 3 + K = (20 * m + 20 + K + 2) + 1 by omega, crierref20_Right.l0, if_pos e1, if_pos e2, show 20 * m + 20 + K + 2 = (20 * m + 19 + K) + 3 by omega, rmay_is, Option.bind_some]
    have split : (∃ a : Nat, i ≤ a ∧ a < l.length ∧ badAt l a) ↔ badAt l i ∨ ∃ a : Nat, i + 1 ≤ a ∧ a < l.length ∧ badAt l a := by
      constructor
      · rintro ⟨q, h1, h2, h3⟩
        by_cases e : q = i
        · subst e; exact .inl h3
        · exact .inr ⟨q, by omega, h2, h3⟩
      · rintro (h | ⟨q, h1, h2, h3⟩)
        · exact ⟨i, Nat.le_refl _, hil, h⟩
        · exact ⟨q, by omega, h2, h3⟩
    rw [split]
    by_cases hk : okS (rd_T54 l i)
    · have hk' : ok (rd_T54 l i).f0 (rd_T54 l i).f1 (rd_T54 l i).f2 (rd_T54 l i).f3 (rd_T54 l i).f4 (rd_T54 l i).f5 (rd_T54 l i).f6 := hk
      rw [decide_eq_true hk', if_pos rfl, show 20 * m + 19 + K + 3 = i + 1 + (20 * m + 3 + (18 - i + K)) by omega]
      obtain ⟨j1, j2⟩ := rinner l hl i hil i (20 * m + 3 + (18 - i + K)) 0 (by omega)
      obtain ⟨i1, i2⟩ := ih (18 - i + K) (i + 1) (by omega)
      by_cases hq : ∃ q : Nat, 0 ≤ q ∧ q < i ∧ clash (rd_T54 l i) (rd_T54 l q)
      · have := j1 hq
        simp only [Int.natCast_zero] at this
        rw [this]
        obtain ⟨q, _, hq1, hq2⟩ := hq
        exact ⟨fun _ => rfl, fun h => absurd (.inl (.inr ⟨q, hq1, hq2⟩)) h⟩
      · have := j2 hq
        simp only [Int.natCast_zero] at this
        rw [this]
        have hn : ¬ badAt l i := by
          rintro (h | ⟨q, hq1, hq2⟩)
          · exact h hk
          · exact hq ⟨q, Nat.zero_le _, hq1, hq2⟩
        exact ⟨fun h => i1 (h.resolve_left hn), fun h => i2 (fun h' => h (.inr h'))⟩
    · have hk' : ¬ ok (rd_T54 l i).f0 (rd_T54 l i).f1 (rd_T54 l i).f2 (rd_T54 l i).f3 (rd_T54 l i).f4 (rd_T54 l i).f5 (rd_T54 l i).f6 := hk
      rw [decide_eq_false hk', if_neg (by decide)]
      exact ⟨fun _ => rfl, fun h => absurd (.inl (.inl hk)) h⟩
/-- may they stand beside one another? -/
def goodL (l : List S54) : Prop := ¬ ∃ a : Nat, a < l.length ∧ badAt l a
theorem rright_bad (l : List S54) (hl : l.length ≤ 16) (h : ¬ goodL l) : crierref20_Right.f 400 l = some 200 := by
  unfold crierref20_Right.f
  rw [if_neg (by omega), show 400 = 20 * l.length + 3 + (397 - 20 * l.length) by omega]
  obtain ⟨a, h1, h2⟩ := Classical.not_not.1 h
  exact (router l hl l.length _ 0 (by omega)).1 ⟨a, Nat.zero_le _, h1, h2⟩
theorem rright_good (l : List S54) (hl : l.length ≤ 16) (h : goodL l) : crierref20_Right.f 400 l = some 0 := by
  unfold crierref20_Right.f
  rw [if_neg (by omega), show 400 = 20 * l.length + 3 + (397 - 20 * l.length) by omega]
  exact (router l hl l.length _ 0 (by omega)).2 (fun ⟨a, _, h1, h2⟩ => h ⟨a, h1, h2⟩)
theorem lright_bad (l : List S54) (hl : l.length ≤ 16) (h : ¬ goodL l) : lr_Right.f 400 l = some 200 := right_bad l hl 0 (Classical.not_not.1 h)
theorem lright_good (l : List S54) (hl : l.length ≤ 16) (h : goodL l) : lr_Right.f 400 l = some 0 := right_good l hl 0 h
theorem l_same (xs : List S54) (hl : xs.length ≤ 4611686018427387904) (m : Nat) : ∀ i : Nat, i + m = xs.length → crierlaw21_same.l0 (m + 1) xs xs (i : Int) = some true := by
  induction m with
  | zero =>
    intro i hi
    rw [crierlaw21_same.l0, if_neg (by omega)]
  | succ m ih =>
    intro i hi
    have hw : wrap64 ((i : Int) + 1) = ((i + 1 : Nat) : Int) := by rw [w64 _ (by omega)]; simp
    have e1 : (i : Int) < (xs.length : Int) := by clear hw; omega
    have e2 : (0 : Int) ≤ (i : Int) := by clear hw; omega
    rw [crierlaw21_same.l0, if_pos e1, if_pos e2, if_pos e1, if_neg (by simp), hw]
    exact ih (i + 1) (by omega)
theorem same_is (xs : List S54) (hl : xs.length ≤ 4611686018427387904) : crierlaw21_same.f (xs.length + 1) xs xs = some true := by
  unfold crierlaw21_same.f
  rw [if_pos rfl]
  exact l_same xs hl xs.length 0 (by omega)
end Go.Proofs.Ytkbaghblchlcnaa.Lr
namespace Go.Proofs.Ytkbaghblchlcnaa.Lr
open Go.RowKit Go.Shelf Go.Proofs.YtkbaghblchlcnaaW.PrintWords Go.Proofs.Ytkbaghblchlcnaa.IAll
theorem below_drawn0 {w w' : World} (h : Drawn0 w w') : Below w.heap.size w w' := by
  obtain ⟨n, rfl⟩ := h
  exact ⟨rfl, rfl, rfl, Nat.le_refl _, fun _ _ => rfl⟩
section
variable {bl : Nat} {xs : List S54} (hx : xs.length ≤ 16) {W : World} (h : isRow W bl) (h' : rowAt W bl = FA xs)
include hx h h'
theorem vfind (id : Int) : Calls Try.prog 22 #[.slice (some ⟨bl, 0, none⟩) xs.length xs.length, .int .i64 id] W fun e w' => e = .returned (.int .i64 (findOf xs id)) ∧ Below W.heap.size W w' :=
  Find_c _ _ xs id W (fa_kd h h' (by omega)) (by omega)
theorem rfind (id : Int) : Calls Try.prog 93 #[.slice (some ⟨bl, 0, none⟩) xs.length xs.length, .int .i64 id] W fun e w' => e = .returned (.int .i64 (findOf xs id)) ∧ Below W.heap.size W w' :=
  (crierref20_Find.calls (xs.length + 1) _ _ xs id _ W (fa_kd h h' (by omega)) (Nat.le_refl _) (Find_is xs hx id)).mono fun _ _ ⟨h1, h2⟩ => ⟨h1, below_drawn0 h2⟩
theorem vbest : Calls Try.prog 40 #[.slice (some ⟨bl, 0, none⟩) xs.length xs.length] W fun e w' => e = .returned (.agg #[.int .i64 (bestOf xs (places pWaits xs)).id, .int .i64 (bestOf xs (places pWaits xs)).pr, .int .i64 (bestOf xs (places pWaits xs)).gr, .bool (bestOf xs (places pWaits xs)).is]) ∧ Below W.heap.size W w' :=
  Best_c _ _ xs W (fa_kd h h' (by omega)) (by omega)
theorem rbest : Calls Try.prog 58 #[.slice (some ⟨bl, 0, none⟩) xs.length xs.length] W fun e w' => e = .returned (.agg #[.int .i64 (bestOf xs (places pWaits xs)).id, .int .i64 (bestOf xs (places pWaits xs)).pr, .int .i64 (bestOf xs (places pWaits xs)).gr, .bool (bestOf xs (places pWaits xs)).is]) ∧ Below W.heap.size W w' :=
  crierref20_Best.calls 40 _ _ xs _ _ _ _ W (fa_kd h h' (by omega)) (Nat.le_refl _) (Best_is xs hx)
end
/-- each state is one of four -/
def stOk (xs : List S54) : Prop := ∀ k : Nat, k < xs.length → (rd_T54 xs k).f0 ≤ 3
theorem end_c (g bl : Nat) (m p0 p1 : Int) (o0 o1 sp : Bool) (a b : Int) (xs : List S54) (hx : xs.length ≤ 16) (hst : stOk xs) (lost id : Int) (hlo : 0 ≤ lost) (hlo2 : lost ≤ 4611686018427387904) (hne : ¬ g = bl) (w : World)
    (hr : isRow w g) (hr' : rowAt w g = #[.int .i64 m, .int .i64 p0, .int .i64 p1, .bool o0, .bool o1, .bool sp, .int .u32 a, .int .u32 b, .slice (some ⟨bl, 0, none⟩) xs.length xs.length, .int .i64 lost]) (hl : isRow w bl) (hl' : rowAt w bl = FA xs) :
    Calls Try.prog 49 #[.pointer (some ⟨g, 0, none⟩), .int .i64 id] w fun e w' => e = .returned (.agg #[.bool (endOk xs id), .int .i64 (endM xs id)]) ∧
      Row w' g #[.int .i64 m, .int .i64 p0, .int .i64 p1, .bool o0, .bool o1, .bool sp, .int .u32 a, .int .u32 b, .slice (some ⟨bl, 0, none⟩) xs.length xs.length, .int .i64 (endLost xs id lost)] ∧ Row w' bl (FA (endXs xs id)) ∧ Aside2 g bl w w' := by
  have hne' : ¬ bl = g := fun e => hne e.symm
  have HF := Lib.hid (fun (W : World) (h : isRow W bl) (h' : rowAt W bl = FA xs) => vfind hx h h' id)
  rcases find_range xs id with hf | ⟨k, hf, hk, _, _⟩
  · have hok : endOk xs id = false := by unfold endOk; rw [hf]; rfl
    have hm : endM xs id = -1 := by unfold endM; rw [hok]; rfl
    have hxs : endXs xs id = xs := by unfold endXs; rw [hok]; rfl
    rw [hok, hm, hxs]
    rw [hf] at HF
    by_cases hid : id < 1020
    · have hlost : endLost xs id lost = lost + 1 := by unfold endLost; rw [hok, if_pos hid]; rfl
      rw [hlost]
      exact end_A g bl m p0 p1 o0 o1 sp a b xs.length (FA xs) lost id w hr hr' hl hl' hne hne' hlo hlo2 hid HF
    · have hlost : endLost xs id lost = lost := by unfold endLost; rw [hok, if_neg hid]; rfl
      rw [hlost]
      exact end_B g bl m p0 p1 o0 o1 sp a b xs.length (FA xs) lost id w hr hr' hl hl' hne hne' hlo hlo2 hid HF
  · rw [hf] at HF
    obtain ⟨c0, _, _, _, c4, c5, _⟩ := FA_gets xs k hk
    have hs3 := hst k hk
    by_cases h2 : 2 ≤ (rd_T54 xs k).f0
    · have hok : endOk xs id = true := by unfold endOk; rw [hf, decide_eq_true (show (0 : Int) ≤ (k : Int) by omega), decide_eq_true h2]; rfl
      have hxs : endXs xs id = setSt xs k ((rd_T54 xs k).f0 - 2) := by unfold endXs; rw [hok, if_pos rfl, hf, Int.toNat_natCast]
      have hlost : endLost xs id lost = lost := by unfold endLost; rw [hok]; rfl
      rw [hok, hxs, hlost, ← FA_set xs k _ hk]
      cases h4 : (rd_T54 xs k).f4 with
      | true =>
        have hm : endM xs id = (rd_T54 xs k).f5 := by unfold endM; rw [hok, if_pos rfl, hf, if_pos h4]
        rw [hm]
        rw [h4] at c4
        exact end_E g bl m p0 p1 o0 o1 sp a b xs.length (FA xs) lost id w hr hr' hl hl' hne hne' hlo hlo2 k hk _ c0 _ c4 c5 h2 hs3 HF
      | false =>
        have hm : endM xs id = -1 := by unfold endM; rw [hok, if_pos rfl, hf, if_neg (by rw [h4]; decide)]
        rw [hm]
        rw [h4] at c4
        exact end_F g bl m p0 p1 o0 o1 sp a b xs.length (FA xs) lost id w hr hr' hl hl' hne hne' hlo hlo2 k hk _ c0 c4 h2 hs3 HF
    · have hok : endOk xs id = false := by unfold endOk; rw [hf, decide_eq_false h2]; simp
      have hm : endM xs id = -1 := by unfold endM; rw [hok]; rfl
      have hxs : endXs xs id = xs := by unfold endXs; rw [hok]; rfl
      rw [hok, hm, hxs]
      by_cases hid : id < 1020
      · have hlost : endLost xs id lost = lost + 1 := by unfold endLost; rw [hok, if_pos hid]; rfl
        rw [hlost]
        exact end_C g bl m p0 p1 o0 o1 sp a b xs.length (FA xs) lost id w hr hr' hl hl' hne hne' hlo hlo2 k hk _ c0 (by omega) hid HF
      · have hlost : endLost xs id lost = lost := by unfold endLost; rw [hok, if_neg hid]; rfl
        rw [hlost]
        exact end_D g bl m p0 p1 o0 o1 sp a b xs.length (FA xs) lost id w hr hr' hl hl' hne hne' hlo hlo2 k hk _ c0 (by omega) hid HF
theorem rend_c (g bl : Nat) (R : Array Value) (hR : R.size = 70) (xs : List S54) (hx : xs.length ≤ 16) (hst : stOk xs) (lost id : Int) (hlo : 0 ≤ lost) (hlo2 : lost ≤ 4611686018427387904) (hne : ¬ g = bl) (w : World)
    (hr : isRow w g) (hr' : rowAt w g = RV R (.slice (some ⟨bl, 0, none⟩) xs.length xs.length) (.int .i64 lost)) (hl : isRow w bl) (hl' : rowAt w bl = FA xs) :
    Calls Try.prog 97 #[.pointer (some ⟨g, 0, none⟩), .int .i64 id] w fun e w' => e = .returned (.tuple #[.bool (endOk xs id), .int .i64 (endM xs id)]) ∧
      Row w' g (RV R (.slice (some ⟨bl, 0, none⟩) xs.length xs.length) (.int .i64 (endLost xs id lost))) ∧ Row w' bl (FA (endXs xs id)) ∧ Aside2 g bl w w' := by
  have hne' : ¬ bl = g := fun e => hne e.symm
  have HF := Lib.hid (fun (W : World) (h : isRow W bl) (h' : rowAt W bl = FA xs) => rfind hx h h' id)
  rcases find_range xs id with hf | ⟨k, hf, hk, _, _⟩
  · have hok : endOk xs id = false := by unfold endOk; rw [hf]; rfl
    have hm : endM xs id = -1 := by unfold endM; rw [hok]; rfl
    have hxs : endXs xs id = xs := by unfold endXs; rw [hok]; rfl
    rw [hok, hm, hxs]
    rw [hf] at HF
    by_cases hid : id < 1020
    · have hlost : endLost xs id lost = lost + 1 := by unfold endLost; rw [hok, if_pos hid]; rfl
      rw [hlost]
      exact rend_A g bl R hR xs.length (FA xs) lost id w hr hr' hl hl' hne hne' hlo hlo2 hid HF
    · have hlost : endLost xs id lost = lost := by unfold endLost; rw [hok, if_neg hid]; rfl
      rw [hlost]
      exact rend_B g bl R hR xs.length (FA xs) lost id w hr hr' hl hl' hne hne' hlo hlo2 hid HF
  · rw [hf] at HF
    obtain ⟨c0, _, _, _, c4, c5, _⟩ := FA_gets xs k hk
    have hs3 := hst k hk
    by_cases h2 : 2 ≤ (rd_T54 xs k).f0
    · have hok : endOk xs id = true := by unfold endOk; rw [hf, decide_eq_true (show (0 : Int) ≤ (k : Int) by omega), decide_eq_true h2]; rfl
      have hxs : endXs xs id = setSt xs k ((rd_T54 xs k).f0 - 2) := by unfold endXs; rw [hok, if_pos rfl, hf, Int.toNat_natCast]
      have hlost : endLost xs id lost = lost := by unfold endLost; rw [hok]; rfl
      rw [hok, hxs, hlost, ← FA_set xs k _ hk]
      cases h4 : (rd_T54 xs k).f4 with
      | true =>
        have hm : endM xs id = (rd_T54 xs k).f5 := by unfold endM; rw [hok, if_pos rfl, hf, if_pos h4]
        rw [hm]
        rw [h4] at c4
        exact rend_E g bl R hR xs.length (FA xs) lost id w hr hr' hl hl' hne hne' hlo hlo2 k hk _ c0 _ c4 c5 h2 hs3 HF
      | false =>
        have hm : endM xs id = -1 := by unfold endM; rw [hok, if_pos rfl, hf, if_neg (by rw [h4]; decide)]
        rw [hm]
        rw [h4] at c4
        exact rend_F g bl R hR xs.length (FA xs) lost id w hr hr' hl hl' hne hne' hlo hlo2 k hk _ c0 c4 h2 hs3 HF
    · have hok : endOk xs id = false := by unfold endOk; rw [hf, decide_eq_false h2]; simp
      have hm : endM xs id = -1 := by unfold endM; rw [hok]; rfl
      have hxs : endXs xs id = xs := by unfold endXs; rw [hok]; rfl
      rw [hok, hm, hxs]
      by_cases hid : id < 1020
      · have hlost : endLost xs id lost = lost + 1 := by unfold endLost; rw [hok, if_pos hid]; rfl
        rw [hlost]
        exact rend_C g bl R hR xs.length (FA xs) lost id w hr hr' hl hl' hne hne' hlo hlo2 k hk _ c0 (by omega) hid HF
      · have hlost : endLost xs id lost = lost := by unfold endLost; rw [hok, if_neg hid]; rfl
        rw [hlost]
        exact rend_D g bl R hR xs.length (FA xs) lost id w hr hr' hl hl' hne hne' hlo hlo2 k hk _ c0 (by omega) hid HF
end Go.Proofs.Ytkbaghblchlcnaa.Lr
namespace Go.Proofs.Ytkbaghblchlcnaa.Lr
open Go.RowKit Go.Shelf Go.Proofs.YtkbaghblchlcnaaW.PrintWords Go.Proofs.Ytkbaghblchlcnaa.IAll
attribute [local go_sem] Oper.semAt_some cell_row frozen_row isRow_setCell_eq rowAt_setCell_same rowAt_setCell_other isRow_alloc_eq rowAt_alloc rowAt_new rowAt_new' isRow_setRow_eq rowAt_setRow_same rowAt_setRow_other isRow_drew rowAt_drew size_setRow_ Lb_size Lb_at blk_ptr aggOf_agg below_alloc_e below_setCell_e below_setRow_e below_refl_e below_drew_r aside2_alloc_e aside2_setCell_e aside2_setRow_e aside2_drew_e aside2_refl_e aside2_drewN_e isRow_drewN rowAt_drewN below_drewN_e le_add_r offv_ptr one_lad zero_lad allOne_nil allOne_cons Value.oneCell' addr_at FA_size one_FA
attribute [local go_sem ↓] storeI storeC storeE
attribute [local go_sem] eq2i eq2b eq2u
theorem resC (fn : Func) {p : Tmp} (h : fn.results = #[.cell p 47]) (tmps : Array Value) (w : World) (g : Nat) (x y z : Int) (u : Bool) (hp : tmps.getD p undef = .pointer (some ⟨g, 0, none⟩)) (hg : Row w g #[.int .i64 x, .int .i64 y, .int .i64 z, .bool u]) :
    (results fn tmps).run Try.prog w = .ok (.agg #[.int .i64 x, .int .i64 y, .int .i64 z, .bool u]) w := results_tmps h tmps w g _ hp hg Try.underlying47 rfl infoC rfl
set_option maxRecDepth 100000 in
set_option maxHeartbeats 1000000 in
theorem vBest_w (g bl : Nat) (m p0 p1 : Int) (o0 o1 sp : Bool) (a b : Int) (n : Nat) (C : Array Value) (lost id pr gr : Int) (is : Bool) (w : World) (hr : isRow w g) (hr' : rowAt w g = #[.int .i64 m, .int .i64 p0, .int .i64 p1, .bool o0, .bool o1, .bool sp, .int .u32 a, .int .u32 b, .slice (some ⟨bl, 0, none⟩) n n, .int .i64 lost]) (hl : isRow w bl) (hl' : rowAt w bl = C)
    (HB : Hid (∀ W : World, isRow W bl → rowAt W bl = C → Calls Try.prog 40 #[.slice (some ⟨bl, 0, none⟩) n n] W fun e w' => e = .returned (.agg #[.int .i64 id, .int .i64 pr, .int .i64 gr, .bool is]) ∧ Below W.heap.size W w')) :
    Calls Try.prog 19 #[.pointer (some ⟨g, 0, none⟩)] w fun e w' => e = .returned (.agg #[.int .i64 id, .int .i64 pr, .int .i64 gr, .bool is]) ∧ Below w.heap.size w w' := by
  have lr := hr.lt
  have ll := hl.lt
  have nr : ¬ g = w.heap.size := by omega
  have rn : ¬ w.heap.size = g := by omega
  have nl : ¬ bl = w.heap.size := by omega
  have ln : ¬ w.heap.size = bl := by omega
  have hB_0 : Below w.heap.size w w := Below.refl _ _
  have ne_V_E : ¬ g = w.heap.size := by omega
  have en_V_E : ¬ w.heap.size = g := by omega
  have ne_L_E : ¬ bl = w.heap.size := by omega
  have en_L_E : ¬ w.heap.size = bl := by omega
  go_enter Try.func19, Try.ntmps19
  go_wp2_with fail
  refine (HB.out _ (by go_simp) (by go_simp)).mono ?_
  rintro e v1 ⟨rfl, hb1⟩
  obtain ⟨V_1, V_1'⟩ : Row v1 g #[.int .i64 m, .int .i64 p0, .int .i64 p1, .bool o0, .bool o1, .bool sp, .int .u32 a, .int .u32 b, .slice (some ⟨bl, 0, none⟩) n n, .int .i64 lost] := Row.step (by go_simp) (by go_simp) hb1
  obtain ⟨L_1, L_1'⟩ : Row v1 bl C := Row.step (by go_simp) (by go_simp) hb1
  obtain ⟨E_1, E_1'⟩ : Row v1 w.heap.size #[.int .i64 0, .int .i64 0, .int .i64 0, .bool false] := Row.step (by go_simp) (by go_simp) hb1
  have hB_1 : Below w.heap.size w v1 := bk (by go_simp) (by first | (go_simp; done) | (go_simp; omega) | exact Below.size (by assumption)) hb1
  clear hr hr' hl hl' hB_0 hb1
  have hz_1 : w.heap.size ≤ v1.heap.size := hB_1.size
  have hl_V_1 := isRow.lt V_1
  have ne_V_1_0 : ¬ g = v1.heap.size := by omega
  have en_V_1_0 : ¬ v1.heap.size = g := by omega
  have hl_L_1 := isRow.lt L_1
  have ne_L_1_0 : ¬ bl = v1.heap.size := by omega
  have en_L_1_0 : ¬ v1.heap.size = bl := by omega
  have hl_E_1 := isRow.lt E_1
  have ne_E_1_0 : ¬ w.heap.size = v1.heap.size := by omega
  have en_E_1_0 : ¬ v1.heap.size = w.heap.size := by omega
  go_wp2
  exact bodyPost_ret (resC _ rfl _ _ w.heap.size id pr gr is rfl ⟨by go_simp, by go_simp⟩) rfl ⟨rfl, by go_simp⟩
set_option maxRecDepth 100000 in
set_option maxHeartbeats 2000000 in
theorem ack_no (g bl : Nat) (m p0 p1 : Int) (o0 o1 sp : Bool) (a b a' b' : Int) (n : Nat) (C : Array Value) (lost id pr gr : Int) (is : Bool) (gp : Int) (w : World) (hr : isRow w g) (hr' : rowAt w g = #[.int .i64 m, .int .i64 p0, .int .i64 p1, .bool o0, .bool o1, .bool sp, .int .u32 a, .int .u32 b, .slice (some ⟨bl, 0, none⟩) n n, .int .i64 lost]) (hl : isRow w bl) (hl' : rowAt w bl = C) (hne : ¬ g = bl) (hne' : ¬ bl = g) 
    (HB : Hid (∀ W : World, isRow W g → rowAt W g = #[.int .i64 m, .int .i64 p0, .int .i64 p1, .bool o0, .bool o1, .bool sp, .int .u32 a, .int .u32 b, .slice (some ⟨bl, 0, none⟩) n n, .int .i64 lost] → isRow W bl → rowAt W bl = C → Calls Try.prog 19 #[.pointer (some ⟨g, 0, none⟩)] W fun e w' => e = .returned (.agg #[.int .i64 id, .int .i64 pr, .int .i64 gr, .bool is]) ∧ Below W.heap.size W w'))
    (HT : Hid (∀ W : World, isRow W g → rowAt W g = #[.int .i64 m, .int .i64 p0, .int .i64 p1, .bool o0, .bool o1, .bool sp, .int .u32 a, .int .u32 b, .slice (some ⟨bl, 0, none⟩) n n, .int .i64 lost] → Calls Try.prog 39 #[.pointer (some ⟨g, 0, none⟩), .agg #[.int .i64 id, .int .i64 pr, .int .i64 gr, .bool is], .int .i64 gp] W fun e w' => e = .returned (.tuple #[.int .i64 1023, .bool false]) ∧ Row w' g #[.int .i64 m, .int .i64 p0, .int .i64 p1, .bool o0, .bool o1, .bool sp, .int .u32 a', .int .u32 b', .slice (some ⟨bl, 0, none⟩) n n, .int .i64 lost] ∧ Aside g W w')) :
    Calls Try.prog 17 #[.pointer (some ⟨g, 0, none⟩), .int .i64 gp] w fun e w' => e = .returned (.int .i64 1023) ∧ Row w' g #[.int .i64 m, .int .i64 p0, .int .i64 p1, .bool o0, .bool o1, .bool sp, .int .u32 a', .int .u32 b', .slice (some ⟨bl, 0, none⟩) n n, .int .i64 lost] ∧ Row w' bl C ∧ Aside2 g bl w w' := by
  have _u : True := by have _ := hne; have _ := hne'; trivial
  clear _u
  have hB0 : Below w.heap.size w w := Below.refl _ _
  skip
  go_enter Try.func17, Try.ntmps17
  go_wp2_with fail
  (first | go_region_with (first | (go_at_call 19; refine (HB.out _ (by go_simp) (by go_simp) (by go_simp) (by go_simp)).mono ?_; rintro e w1 ⟨rfl, hb1⟩; obtain ⟨V1, V1'⟩ : Row w1 g #[.int .i64 m, .int .i64 p0, .int .i64 p1, .bool o0, .bool o1, .bool sp, .int .u32 a, .int .u32 b, .slice (some ⟨bl, 0, none⟩) n n, .int .i64 lost] := Row.step (by go_simp) (by go_simp) hb1; obtain ⟨L1, L1'⟩ : Row w1 bl C := Row.step (by go_simp) (by go_simp) hb1; have hB1 : Below w.heap.size w w1 := (below_drewl hb1)) | (go_at_call 39; refine (HT.out _ V1 V1').mono ?_; rintro e w2 ⟨rfl, ⟨V2, V2'⟩, hA2⟩; obtain ⟨L2, L2'⟩ : Row w2 bl C := hA2.row ⟨L1, L1'⟩ hne'; have hX : Aside2 g bl w w2 := (Aside2.of_below hB1).trans (Aside2.left hA2); clear hA2 V1 V1' L1 L1' hB1)) | fail)
  all_goals
    clear hr hr' hl hl' hB0
    go_wp2
    go_ret
    exact ⟨rfl, ⟨by go_simp, by go_simp⟩, ⟨by go_simp, by go_simp⟩, by go_simp⟩
set_option maxRecDepth 100000 in
set_option maxHeartbeats 2000000 in
theorem ack_lo (g bl : Nat) (m p0 p1 : Int) (o0 o1 sp : Bool) (a b a' b' : Int) (n : Nat) (C : Array Value) (lost id pr gr : Int) (is : Bool) (gp : Int) (w : World) (hr : isRow w g) (hr' : rowAt w g = #[.int .i64 m, .int .i64 p0, .int .i64 p1, .bool o0, .bool o1, .bool sp, .int .u32 a, .int .u32 b, .slice (some ⟨bl, 0, none⟩) n n, .int .i64 lost]) (hl : isRow w bl) (hl' : rowAt w bl = C) (hne : ¬ g = bl) (hne' : ¬ bl = g) (k : Nat) (hk : k < n) (hid : ¬ 8192 ≤ id) (st : Int) (c0 : C[k * 7]? = some (.int .i64 st)) (HF : Hid (∀ W : World, isRow W bl → rowAt W bl = C → Calls Try.prog 22 #[.slice (some ⟨bl, 0, none⟩) n n, .int .i64 id] W fun e w' => e = .returned (.int .i64 (k : Int)) ∧ Below W.heap.size W w'))
    (HB : Hid (∀ W : World, isRow W g → rowAt W g = #[.int .i64 m, .int .i64 p0, .int .i64 p1, .bool o0, .bool o1, .bool sp, .int .u32 a, .int .u32 b, .slice (some ⟨bl, 0, none⟩) n n, .int .i64 lost] → isRow W bl → rowAt W bl = C → Calls Try.prog 19 #[.pointer (some ⟨g, 0, none⟩)] W fun e w' => e = .returned (.agg #[.int .i64 id, .int .i64 pr, .int .i64 gr, .bool is]) ∧ Below W.heap.size W w'))
    (HT : Hid (∀ W : World, isRow W g → rowAt W g = #[.int .i64 m, .int .i64 p0, .int .i64 p1, .bool o0, .bool o1, .bool sp, .int .u32 a, .int .u32 b, .slice (some ⟨bl, 0, none⟩) n n, .int .i64 lost] → Calls Try.prog 39 #[.pointer (some ⟨g, 0, none⟩), .agg #[.int .i64 id, .int .i64 pr, .int .i64 gr, .bool is], .int .i64 gp] W fun e w' => e = .returned (.tuple #[.int .i64 id, .bool true]) ∧ Row w' g #[.int .i64 m, .int .i64 p0, .int .i64 p1, .bool o0, .bool o1, .bool sp, .int .u32 a', .int .u32 b', .slice (some ⟨bl, 0, none⟩) n n, .int .i64 lost] ∧ Aside g W w')) :
    Calls Try.prog 17 #[.pointer (some ⟨g, 0, none⟩), .int .i64 gp] w fun e w' => e = .returned (.int .i64 id) ∧ Row w' g #[.int .i64 m, .int .i64 p0, .int .i64 p1, .bool o0, .bool o1, .bool sp, .int .u32 a', .int .u32 b', .slice (some ⟨bl, 0, none⟩) n n, .int .i64 lost] ∧ Row w' bl (C.setIfInBounds (k * 7) (.int .i64 2)) ∧ Aside2 g bl w w' := by
  have _u : True := by have _ := hne; have _ := hne'; trivial
  clear _u
  have hB0 : Below w.heap.size w w := Below.refl _ _
  have k1 : (0 : Int) ≤ (k : Int) := by omega
  have k2 : (k : Int) < (n : Int) := by omega
  have _v := hk
  clear _v
  go_enter Try.func17, Try.ntmps17
  go_wp2_with fail
  (first | go_region_with (first | (go_at_call 19; refine (HB.out _ (by go_simp) (by go_simp) (by go_simp) (by go_simp)).mono ?_; rintro e w1 ⟨rfl, hb1⟩; obtain ⟨V1, V1'⟩ : Row w1 g #[.int .i64 m, .int .i64 p0, .int .i64 p1, .bool o0, .bool o1, .bool sp, .int .u32 a, .int .u32 b, .slice (some ⟨bl, 0, none⟩) n n, .int .i64 lost] := Row.step (by go_simp) (by go_simp) hb1; obtain ⟨L1, L1'⟩ : Row w1 bl C := Row.step (by go_simp) (by go_simp) hb1; have hB1 : Below w.heap.size w w1 := (below_drewl hb1)) | (go_at_call 39; refine (HT.out _ V1 V1').mono ?_; rintro e w2 ⟨rfl, ⟨V2, V2'⟩, hA2⟩; obtain ⟨L2, L2'⟩ : Row w2 bl C := hA2.row ⟨L1, L1'⟩ hne'; have hX : Aside2 g bl w w2 := (Aside2.of_below hB1).trans (Aside2.left hA2); clear hA2 V1 V1' L1 L1' hB1)) | fail)
  all_goals
    clear hr hr' hl hl' hB0
    go_wp2_with fail
    have hB_0 : Below w.heap.size w w := Below.refl _ _
    refine wp_region_held_drew (S := fun w' => isRow w' g ∧ rowAt w' g = #[.int .i64 m, .int .i64 p0, .int .i64 p1, .bool o0, .bool o1, .bool sp, .int .u32 a', .int .u32 b', .slice (some ⟨bl, 0, none⟩) n n, .int .i64 lost] ∧ isRow w' bl ∧ rowAt w' bl = C ∧ Aside2 g bl w w') (by kernel_rfl) ⟨V2, V2', L2, L2', Aside2.drew hX⟩ (fun hHeld => ?_)
    refine wpAnyH_take (i := 0) (oi := { dst := some 21, op := Op.move (Operand.tmp 0), type := 24, pos := "vcpu.go:68", after := #[], guard := none }) (v := ?_) rfl (by kernel_rfl) (by kernel_rfl) (by kernel_rfl) (fun _ _ _ h => h) (Or.inl ⟨by rfl, ?_⟩) (by assumption) ?_
    rotate_left
    · (intro w_ hS_; (try dsimp only at hS_); go_simp; try with_reducible rfl)
    try simp only [Act.put, List.setIfInBounds_toArray, List.set_cons_zero, List.set_cons_succ]
    refine wpAnyH_take (i := 1) (oi := { dst := some 22, op := Op.nilCheck (Operand.tmp 21), type := 0, pos := "vcpu.go:68", after := #[{ on := 0, ground := Ground.data }], guard := none }) (v := ?_) rfl (by kernel_rfl) (by kernel_rfl) (by kernel_rfl) (fun _ _ _ h => h) (Or.inl ⟨by rfl, ?_⟩) (by assumption) ?_
    rotate_left
    · (intro w_ hS_; (try dsimp only at hS_); go_simp; try with_reducible rfl)
    try simp only [Act.put, List.setIfInBounds_toArray, List.set_cons_zero, List.set_cons_succ]
    refine wpAnyH_take (i := 2) (oi := { dst := some 23, op := Op.fieldAddr 37 (Operand.tmp 22) 1, type := 0, pos := "vcpu.go:68", after := #[{ on := 1, ground := Ground.data }], guard := none }) (v := ?_) rfl (by kernel_rfl) (by kernel_rfl) (by kernel_rfl) (fun _ _ _ h => h) (Or.inl ⟨by rfl, ?_⟩) (by assumption) ?_
    rotate_left
    · (intro w_ hS_; (try dsimp only at hS_); go_simp; try with_reducible rfl)
    try simp only [Act.put, List.setIfInBounds_toArray, List.set_cons_zero, List.set_cons_succ]
    refine wpAnyH_take (i := 3) (oi := { dst := some 24, op := Op.load 22 (Operand.tmp 23), type := 22, pos := "vcpu.go:68", after := #[{ on := 2, ground := Ground.data }], guard := none }) (v := ?_) rfl (by kernel_rfl) (by kernel_rfl) (by kernel_rfl) (fun _ _ _ h => h) (Or.inl ⟨by rfl, ?_⟩) (by assumption) ?_
    rotate_left
    · (intro w_ hS_; (try dsimp only at hS_); go_simp; try with_reducible rfl)
    try simp only [Act.put, List.setIfInBounds_toArray, List.set_cons_zero, List.set_cons_succ]
    refine wpAnyH_take (i := 4) (oi := { dst := some 25, op := Op.move (Operand.tmp 0), type := 24, pos := "vcpu.go:68", after := #[], guard := none }) (v := ?_) rfl (by kernel_rfl) (by kernel_rfl) (by kernel_rfl) (fun _ _ _ h => h) (Or.inl ⟨by rfl, ?_⟩) (by assumption) ?_
    rotate_left
    · (intro w_ hS_; (try dsimp only at hS_); go_simp; try with_reducible rfl)
    try simp only [Act.put, List.setIfInBounds_toArray, List.set_cons_zero, List.set_cons_succ]
    refine wpAnyH_take (i := 5) (oi := { dst := some 26, op := Op.nilCheck (Operand.tmp 25), type := 0, pos := "vcpu.go:68", after := #[{ on := 4, ground := Ground.data }], guard := none }) (v := ?_) rfl (by kernel_rfl) (by kernel_rfl) (by kernel_rfl) (fun _ _ _ h => h) (Or.inl ⟨by rfl, ?_⟩) (by assumption) ?_
    rotate_left
    · (intro w_ hS_; (try dsimp only at hS_); go_simp; try with_reducible rfl)
    try simp only [Act.put, List.setIfInBounds_toArray, List.set_cons_zero, List.set_cons_succ]
    refine wpAnyH_take (i := 6) (oi := { dst := some 27, op := Op.fieldAddr 37 (Operand.tmp 26) 1, type := 0, pos := "vcpu.go:68", after := #[{ on := 5, ground := Ground.data }], guard := none }) (v := ?_) rfl (by kernel_rfl) (by kernel_rfl) (by kernel_rfl) (fun _ _ _ h => h) (Or.inl ⟨by rfl, ?_⟩) (by assumption) ?_
    rotate_left
    · (intro w_ hS_; (try dsimp only at hS_); go_simp; try with_reducible rfl)
    try simp only [Act.put, List.setIfInBounds_toArray, List.set_cons_zero, List.set_cons_succ]
    refine wpAnyH_take (i := 7) (oi := { dst := some 28, op := Op.load 22 (Operand.tmp 27), type := 22, pos := "vcpu.go:68", after := #[{ on := 6, ground := Ground.data }], guard := none }) (v := ?_) rfl (by kernel_rfl) (by kernel_rfl) (by kernel_rfl) (fun _ _ _ h => h) (Or.inl ⟨by rfl, ?_⟩) (by assumption) ?_
    rotate_left
    · (intro w_ hS_; (try dsimp only at hS_); go_simp; try with_reducible rfl)
    try simp only [Act.put, List.setIfInBounds_toArray, List.set_cons_zero, List.set_cons_succ]
    refine wpAnyH_take (i := 8) (oi := { dst := some 29, op := Op.move (Operand.tmp 5), type := 3, pos := "vcpu.go:68", after := #[], guard := none }) (v := ?_) rfl (by kernel_rfl) (by kernel_rfl) (by kernel_rfl) (fun _ _ _ h => h) (Or.inl ⟨by rfl, ?_⟩) (by assumption) ?_
    rotate_left
    · (intro w_ hS_; (try dsimp only at hS_); go_simp; try with_reducible rfl)
    try simp only [Act.put, List.setIfInBounds_toArray, List.set_cons_zero, List.set_cons_succ]
    refine wpAnyH_ready (rs := [9]) (by kernel_rfl) (by simp) ?_
    refine AllReadyH.cons (o := { dst := some 30, op := Op.call { callee := Callee.value (Operand.func 22), args := #[Operand.tmp 28, Operand.tmp 29], argTypes := #[22, 3] }, type := 3, pos := "vcpu.go:68", after := #[{ on := 7, ground := Ground.data }, { on := 8, ground := Ground.data }], guard := none }) rfl (fun K hK => ?_) AllReadyH.nil
    go_simp
    (have hq_ := hHeld; (try dsimp only at hq_); go_split_ands)
    refine (HF.out _ (by assumption) (by assumption)).mono ?_
    rintro e w4 ⟨rfl, hb⟩
    refine hK.out _ _ ?_ (fun hHeld => ?_)
    · (go_split_ands; exact ⟨rk1 (by assumption) hb, rk2 (by assumption) (by assumption) hb, rk1 (by assumption) hb, rk2 (by assumption) (by assumption) hb, Aside2.low (by assumption) hb⟩)
    clear hK K
    try simp only [Act.put, List.setIfInBounds_toArray, List.set_cons_zero, List.set_cons_succ]
    refine wpAnyH_take (i := 10) (oi := { dst := some 31, op := Op.indexAddr 22 (Operand.tmp 24) (Operand.tmp 30), type := 0, pos := "vcpu.go:68", after := #[{ on := 3, ground := Ground.data }, { on := 9, ground := Ground.data }], guard := none }) (v := ?_) rfl (by kernel_rfl) (by kernel_rfl) (by kernel_rfl) (fun _ _ _ h => h) (Or.inl ⟨by rfl, ?_⟩) (by assumption) ?_
    rotate_left
    · (intro w_ hS_; (try dsimp only at hS_); go_simp; try with_reducible rfl)
    try simp only [Act.put, List.setIfInBounds_toArray, List.set_cons_zero, List.set_cons_succ]
    refine wpAnyH_take (i := 11) (oi := { dst := some 7, op := Op.assign (Operand.tmp 31), type := 91, pos := "vcpu.go:68", after := #[{ on := 10, ground := Ground.data }, { on := 9, ground := Ground.chain }, { on := 0, ground := Ground.phase }, { on := 1, ground := Ground.phase }, { on := 2, ground := Ground.phase }, { on := 3, ground := Ground.phase }, { on := 4, ground := Ground.phase }, { on := 5, ground := Ground.phase }, { on := 6, ground := Ground.phase }, { on := 7, ground := Ground.phase }, { on := 8, ground := Ground.phase }, { on := 9, ground := Ground.phase }, { on := 10, ground := Ground.phase }], guard := none }) (v := ?_) rfl (by kernel_rfl) (by kernel_rfl) (by kernel_rfl) (fun _ _ _ h => h) (Or.inl ⟨by rfl, ?_⟩) (by assumption) ?_
    rotate_left
    · (intro w_ hS_; (try dsimp only at hS_); go_simp; try with_reducible rfl)
    try simp only [Act.put, List.setIfInBounds_toArray, List.set_cons_zero, List.set_cons_succ]
    refine wpAnyH_done (by kernel_rfl) ?_ _
    (try dsimp only at hHeld)
    go_split_ands
    go_wp2
    go_ret
    exact ⟨rfl, ⟨by go_simp, by go_simp⟩, ⟨by go_simp, by go_simp⟩, by go_simp⟩
set_option maxRecDepth 100000 in
set_option maxHeartbeats 2000000 in
theorem ack_hi (g bl : Nat) (m p0 p1 : Int) (o0 o1 sp : Bool) (a b a' b' : Int) (n : Nat) (C : Array Value) (lost id pr gr : Int) (is : Bool) (gp : Int) (w : World) (hr : isRow w g) (hr' : rowAt w g = #[.int .i64 m, .int .i64 p0, .int .i64 p1, .bool o0, .bool o1, .bool sp, .int .u32 a, .int .u32 b, .slice (some ⟨bl, 0, none⟩) n n, .int .i64 lost]) (hl : isRow w bl) (hl' : rowAt w bl = C) (hne : ¬ g = bl) (hne' : ¬ bl = g) (k : Nat) (hk : k < n) (hid : 8192 ≤ id) (st : Int) (c0 : C[k * 7]? = some (.int .i64 st)) (HF : Hid (∀ W : World, isRow W bl → rowAt W bl = C → Calls Try.prog 22 #[.slice (some ⟨bl, 0, none⟩) n n, .int .i64 id] W fun e w' => e = .returned (.int .i64 (k : Int)) ∧ Below W.heap.size W w'))
    (HB : Hid (∀ W : World, isRow W g → rowAt W g = #[.int .i64 m, .int .i64 p0, .int .i64 p1, .bool o0, .bool o1, .bool sp, .int .u32 a, .int .u32 b, .slice (some ⟨bl, 0, none⟩) n n, .int .i64 lost] → isRow W bl → rowAt W bl = C → Calls Try.prog 19 #[.pointer (some ⟨g, 0, none⟩)] W fun e w' => e = .returned (.agg #[.int .i64 id, .int .i64 pr, .int .i64 gr, .bool is]) ∧ Below W.heap.size W w'))
    (HT : Hid (∀ W : World, isRow W g → rowAt W g = #[.int .i64 m, .int .i64 p0, .int .i64 p1, .bool o0, .bool o1, .bool sp, .int .u32 a, .int .u32 b, .slice (some ⟨bl, 0, none⟩) n n, .int .i64 lost] → Calls Try.prog 39 #[.pointer (some ⟨g, 0, none⟩), .agg #[.int .i64 id, .int .i64 pr, .int .i64 gr, .bool is], .int .i64 gp] W fun e w' => e = .returned (.tuple #[.int .i64 id, .bool true]) ∧ Row w' g #[.int .i64 m, .int .i64 p0, .int .i64 p1, .bool o0, .bool o1, .bool sp, .int .u32 a', .int .u32 b', .slice (some ⟨bl, 0, none⟩) n n, .int .i64 lost] ∧ Aside g W w')) :
    Calls Try.prog 17 #[.pointer (some ⟨g, 0, none⟩), .int .i64 gp] w fun e w' => e = .returned (.int .i64 id) ∧ Row w' g #[.int .i64 m, .int .i64 p0, .int .i64 p1, .bool o0, .bool o1, .bool sp, .int .u32 a', .int .u32 b', .slice (some ⟨bl, 0, none⟩) n n, .int .i64 lost] ∧ Row w' bl ((C.setIfInBounds (k * 7) (.int .i64 2)).setIfInBounds (k * 7) (.int .i64 0)) ∧ Aside2 g bl w w' := by
  have _u : True := by have _ := hne; have _ := hne'; trivial
  clear _u
  have hB0 : Below w.heap.size w w := Below.refl _ _
  have k1 : (0 : Int) ≤ (k : Int) := by omega
  have k2 : (k : Int) < (n : Int) := by omega
  have _v := hk
  clear _v
  have c0' : (C.setIfInBounds (k * 7) (.int .i64 2))[k * 7]? = some (.int .i64 2) := by rw [Array.getElem?_setIfInBounds_self_of_lt (Array.getElem?_eq_some_iff.1 c0).1]
  go_enter Try.func17, Try.ntmps17
  go_wp2_with fail
  (first | go_region_with (first | (go_at_call 19; refine (HB.out _ (by go_simp) (by go_simp) (by go_simp) (by go_simp)).mono ?_; rintro e w1 ⟨rfl, hb1⟩; obtain ⟨V1, V1'⟩ : Row w1 g #[.int .i64 m, .int .i64 p0, .int .i64 p1, .bool o0, .bool o1, .bool sp, .int .u32 a, .int .u32 b, .slice (some ⟨bl, 0, none⟩) n n, .int .i64 lost] := Row.step (by go_simp) (by go_simp) hb1; obtain ⟨L1, L1'⟩ : Row w1 bl C := Row.step (by go_simp) (by go_simp) hb1; have hB1 : Below w.heap.size w w1 := (below_drewl hb1)) | (go_at_call 39; refine (HT.out _ V1 V1').mono ?_; rintro e w2 ⟨rfl, ⟨V2, V2'⟩, hA2⟩; obtain ⟨L2, L2'⟩ : Row w2 bl C := hA2.row ⟨L1, L1'⟩ hne'; have hX : Aside2 g bl w w2 := (Aside2.of_below hB1).trans (Aside2.left hA2); clear hA2 V1 V1' L1 L1' hB1)) | fail)
  all_goals
    clear hr hr' hl hl' hB0
    go_wp2_with fail
    have hB_0 : Below w.heap.size w w := Below.refl _ _
    refine wp_region_held_drew (S := fun w' => isRow w' g ∧ rowAt w' g = #[.int .i64 m, .int .i64 p0, .int .i64 p1, .bool o0, .bool o1, .bool sp, .int .u32 a', .int .u32 b', .slice (some ⟨bl, 0, none⟩) n n, .int .i64 lost] ∧ isRow w' bl ∧ rowAt w' bl = C ∧ Aside2 g bl w w') (by kernel_rfl) ⟨V2, V2', L2, L2', Aside2.drew hX⟩ (fun hHeld => ?_)
    refine wpAnyH_take (i := 0) (oi := { dst := some 21, op := Op.move (Operand.tmp 0), type := 24, pos := "vcpu.go:68", after := #[], guard := none }) (v := ?_) rfl (by kernel_rfl) (by kernel_rfl) (by kernel_rfl) (fun _ _ _ h => h) (Or.inl ⟨by rfl, ?_⟩) (by assumption) ?_
    rotate_left
    · (intro w_ hS_; (try dsimp only at hS_); go_simp; try with_reducible rfl)
    try simp only [Act.put, List.setIfInBounds_toArray, List.set_cons_zero, List.set_cons_succ]
    refine wpAnyH_take (i := 1) (oi := { dst := some 22, op := Op.nilCheck (Operand.tmp 21), type := 0, pos := "vcpu.go:68", after := #[{ on := 0, ground := Ground.data }], guard := none }) (v := ?_) rfl (by kernel_rfl) (by kernel_rfl) (by kernel_rfl) (fun _ _ _ h => h) (Or.inl ⟨by rfl, ?_⟩) (by assumption) ?_
    rotate_left
    · (intro w_ hS_; (try dsimp only at hS_); go_simp; try with_reducible rfl)
    try simp only [Act.put, List.setIfInBounds_toArray, List.set_cons_zero, List.set_cons_succ]
    refine wpAnyH_take (i := 2) (oi := { dst := some 23, op := Op.fieldAddr 37 (Operand.tmp 22) 1, type := 0, pos := "vcpu.go:68", after := #[{ on := 1, ground := Ground.data }], guard := none }) (v := ?_) rfl (by kernel_rfl) (by kernel_rfl) (by kernel_rfl) (fun _ _ _ h => h) (Or.inl ⟨by rfl, ?_⟩) (by assumption) ?_
    rotate_left
    · (intro w_ hS_; (try dsimp only at hS_); go_simp; try with_reducible rfl)
    try simp only [Act.put, List.setIfInBounds_toArray, List.set_cons_zero, List.set_cons_succ]
    refine wpAnyH_take (i := 3) (oi := { dst := some 24, op := Op.load 22 (Operand.tmp 23), type := 22, pos := "vcpu.go:68", after := #[{ on := 2, ground := Ground.data }], guard := none }) (v := ?_) rfl (by kernel_rfl) (by kernel_rfl) (by kernel_rfl) (fun _ _ _ h => h) (Or.inl ⟨by rfl, ?_⟩) (by assumption) ?_
    rotate_left
    · (intro w_ hS_; (try dsimp only at hS_); go_simp; try with_reducible rfl)
    try simp only [Act.put, List.setIfInBounds_toArray, List.set_cons_zero, List.set_cons_succ]
    refine wpAnyH_take (i := 4) (oi := { dst := some 25, op := Op.move (Operand.tmp 0), type := 24, pos := "vcpu.go:68", after := #[], guard := none }) (v := ?_) rfl (by kernel_rfl) (by kernel_rfl) (by kernel_rfl) (fun _ _ _ h => h) (Or.inl ⟨by rfl, ?_⟩) (by assumption) ?_
    rotate_left
    · (intro w_ hS_; (try dsimp only at hS_); go_simp; try with_reducible rfl)
    try simp only [Act.put, List.setIfInBounds_toArray, List.set_cons_zero, List.set_cons_succ]
    refine wpAnyH_take (i := 5) (oi := { dst := some 26, op := Op.nilCheck (Operand.tmp 25), type := 0, pos := "vcpu.go:68", after := #[{ on := 4, ground := Ground.data }], guard := none }) (v := ?_) rfl (by kernel_rfl) (by kernel_rfl) (by kernel_rfl) (fun _ _ _ h => h) (Or.inl ⟨by rfl, ?_⟩) (by assumption) ?_
    rotate_left
    · (intro w_ hS_; (try dsimp only at hS_); go_simp; try with_reducible rfl)
    try simp only [Act.put, List.setIfInBounds_toArray, List.set_cons_zero, List.set_cons_succ]
    refine wpAnyH_take (i := 6) (oi := { dst := some 27, op := Op.fieldAddr 37 (Operand.tmp 26) 1, type := 0, pos := "vcpu.go:68", after := #[{ on := 5, ground := Ground.data }], guard := none }) (v := ?_) rfl (by kernel_rfl) (by kernel_rfl) (by kernel_rfl) (fun _ _ _ h => h) (Or.inl ⟨by rfl, ?_⟩) (by assumption) ?_
    rotate_left
    · (intro w_ hS_; (try dsimp only at hS_); go_simp; try with_reducible rfl)
    try simp only [Act.put, List.setIfInBounds_toArray, List.set_cons_zero, List.set_cons_succ]
    refine wpAnyH_take (i := 7) (oi := { dst := some 28, op := Op.load 22 (Operand.tmp 27), type := 22, pos := "vcpu.go:68", after := #[{ on := 6, ground := Ground.data }], guard := none }) (v := ?_) rfl (by kernel_rfl) (by kernel_rfl) (by kernel_rfl) (fun _ _ _ h => h) (Or.inl ⟨by rfl, ?_⟩) (by assumption) ?_
    rotate_left
    · (intro w_ hS_; (try dsimp only at hS_); go_simp; try with_reducible rfl)
    try simp only [Act.put, List.setIfInBounds_toArray, List.set_cons_zero, List.set_cons_succ]
    refine wpAnyH_take (i := 8) (oi := { dst := some 29, op := Op.move (Operand.tmp 5), type := 3, pos := "vcpu.go:68", after := #[], guard := none }) (v := ?_) rfl (by kernel_rfl) (by kernel_rfl) (by kernel_rfl) (fun _ _ _ h => h) (Or.inl ⟨by rfl, ?_⟩) (by assumption) ?_
    rotate_left
    · (intro w_ hS_; (try dsimp only at hS_); go_simp; try with_reducible rfl)
    try simp only [Act.put, List.setIfInBounds_toArray, List.set_cons_zero, List.set_cons_succ]
    refine wpAnyH_ready (rs := [9]) (by kernel_rfl) (by simp) ?_
    refine AllReadyH.cons (o := { dst := some 30, op := Op.call { callee := Callee.value (Operand.func 22), args := #[Operand.tmp 28, Operand.tmp 29], argTypes := #[22, 3] }, type := 3, pos := "vcpu.go:68", after := #[{ on := 7, ground := Ground.data }, { on := 8, ground := Ground.data }], guard := none }) rfl (fun K hK => ?_) AllReadyH.nil
    go_simp
    (have hq_ := hHeld; (try dsimp only at hq_); go_split_ands)
    refine (HF.out _ (by assumption) (by assumption)).mono ?_
    rintro e w4 ⟨rfl, hb⟩
    refine hK.out _ _ ?_ (fun hHeld => ?_)
    · (go_split_ands; exact ⟨rk1 (by assumption) hb, rk2 (by assumption) (by assumption) hb, rk1 (by assumption) hb, rk2 (by assumption) (by assumption) hb, Aside2.low (by assumption) hb⟩)
    clear hK K
    try simp only [Act.put, List.setIfInBounds_toArray, List.set_cons_zero, List.set_cons_succ]
    refine wpAnyH_take (i := 10) (oi := { dst := some 31, op := Op.indexAddr 22 (Operand.tmp 24) (Operand.tmp 30), type := 0, pos := "vcpu.go:68", after := #[{ on := 3, ground := Ground.data }, { on := 9, ground := Ground.data }], guard := none }) (v := ?_) rfl (by kernel_rfl) (by kernel_rfl) (by kernel_rfl) (fun _ _ _ h => h) (Or.inl ⟨by rfl, ?_⟩) (by assumption) ?_
    rotate_left
    · (intro w_ hS_; (try dsimp only at hS_); go_simp; try with_reducible rfl)
    try simp only [Act.put, List.setIfInBounds_toArray, List.set_cons_zero, List.set_cons_succ]
    refine wpAnyH_take (i := 11) (oi := { dst := some 7, op := Op.assign (Operand.tmp 31), type := 91, pos := "vcpu.go:68", after := #[{ on := 10, ground := Ground.data }, { on := 9, ground := Ground.chain }, { on := 0, ground := Ground.phase }, { on := 1, ground := Ground.phase }, { on := 2, ground := Ground.phase }, { on := 3, ground := Ground.phase }, { on := 4, ground := Ground.phase }, { on := 5, ground := Ground.phase }, { on := 6, ground := Ground.phase }, { on := 7, ground := Ground.phase }, { on := 8, ground := Ground.phase }, { on := 9, ground := Ground.phase }, { on := 10, ground := Ground.phase }], guard := none }) (v := ?_) rfl (by kernel_rfl) (by kernel_rfl) (by kernel_rfl) (fun _ _ _ h => h) (Or.inl ⟨by rfl, ?_⟩) (by assumption) ?_
    rotate_left
    · (intro w_ hS_; (try dsimp only at hS_); go_simp; try with_reducible rfl)
    try simp only [Act.put, List.setIfInBounds_toArray, List.set_cons_zero, List.set_cons_succ]
    refine wpAnyH_done (by kernel_rfl) ?_ _
    (try dsimp only at hHeld)
    go_split_ands
    go_wp2
    go_ret
    exact ⟨rfl, ⟨by go_simp, by go_simp⟩, ⟨by go_simp, by go_simp⟩, by go_simp⟩
end Go.Proofs.Ytkbaghblchlcnaa.Lr
namespace Go.Proofs.Ytkbaghblchlcnaa
open Go.RowKit Go.Shelf
attribute [local go_sem] Oper.semAt_some cell_row frozen_row isRow_setCell_eq rowAt_setCell_same rowAt_setCell_other isRow_alloc_eq rowAt_alloc rowAt_new isRow_setRow_eq rowAt_setRow_same rowAt_setRow_other isRow_drew rowAt_drew size_setRow_ Lb_size Lb_at blk_ptr aggOf_agg below_alloc_r below_setCell_r below_setRow_r below_drew_r le_add_r RC_size RC_get0 RC_at0 RC_set0 RC_get1 RC_at1 RC_set1 RC_get2 RC_at2 RC_set2 RC_get3 RC_at3 RC_set3 RC_get4 RC_at4 RC_set4 RC_get5 RC_at5 RC_set5 zeroF RC_ext RC_spl RC_one offv_ptr one_lad zero_lad allOne_nil allOne_cons Value.oneCell' zero_rc zero_rc2
attribute [local go_sem ↓] loadF storeF loadA storeA loadM storeM
def iof : Value → Int | .int _ a => a | _ => 0
def bof : Value → Bool | .bool a => a | _ => false
def vof (v : Value) (i : Nat) : Value := (aggOf v)[i]?.getD undef
def lf (v : Value) : Nat → Bool := fun i => bof (vof v i)
theorem iof_r {k : IntKind} {a : Int} : iof (.int k a) = a := rfl
theorem bof_r {a : Bool} : bof (.bool a) = a := rfl
theorem vof_0 {a b : Value} : vof (.agg #[a, b]) 0 = a := rfl
theorem vof_1 {a b : Value} : vof (.agg #[a, b]) 1 = b := rfl
set_option maxRecDepth 100000 in
theorem lf_L (f : Nat → Bool) : Lb (lf (.agg (Lb f))) = Lb f := by kernel_rfl
theorem RC_lf {m p0 p1 : Int} {o0 o1 sp : Bool} {f : Nat → Bool} : RC m p0 p1 o0 o1 sp (lf (.agg (Lb f))) = RC m p0 p1 o0 o1 sp f := by unfold RC; rw [lf_L]
set_option maxRecDepth 100000 in
theorem RC_fold {m p0 p1 : Int} {o0 o1 sp : Bool} {f : Nat → Bool} : Array.foldl (fun (cs : Array Value) (x : Value × Nat) => cs.setIfInBounds (6 + x.snd) x.fst) (RC m p0 p1 o0 o1 sp fun _ => false) (Lb f).zipIdx 0 64 = RC m p0 p1 o0 o1 sp f := by kernel_rfl
theorem RC_ne {m p0 p1 : Int} {o0 o1 sp : Bool} {f : Nat → Bool} : (RC m p0 p1 o0 o1 sp f = #[]) = False := propext ⟨fun h => by (have := congrArg Array.size h; rw [RC_size] at this; cases this), False.elim⟩
section
variable {w : World} {ρ : Operand → Value} {x0 x1 x2 x3 x4 : Operand} {dst : Option Tmp} {t0 : TypeId} {pos : String} {af : Array Edge} {gd : Option (Nat × Bool)}
set_option maxRecDepth 100000 in
theorem buildF (h0 : ρ x0 = .int .i64 (iof (ρ x0))) (h1 : ρ x1 = .agg #[.int .i64 (iof (vof (ρ x1) 0)), .int .i64 (iof (vof (ρ x1) 1))]) (h2 : ρ x2 = .agg #[.bool (bof (vof (ρ x2) 0)), .bool (bof (vof (ρ x2) 1))]) (h3 : ρ x3 = .bool (bof (ρ x3))) (h4 : ρ x4 = .agg (Lb (lf (ρ x4)))) :
    (execOp ρ { dst := dst, op := .build 107 #[(0, x0), (1, x1), (2, x2), (3, x3), (4, x4)], type := t0, pos := pos, after := af, guard := gd }).run Try.prog w =
      .ok (.value (.agg (RC (iof (ρ x0)) (iof (vof (ρ x1) 0)) (iof (vof (ρ x1) 1)) (bof (vof (ρ x2) 0)) (bof (vof (ρ x2) 1)) (bof (ρ x3)) (lf (ρ x4))))) w := by
  generalize iof (ρ x0) = m at *
  generalize iof (vof (ρ x1) 0) = p0 at *
  generalize iof (vof (ρ x1) 1) = p1 at *
  generalize bof (vof (ρ x2) 0) = o0 at *
  generalize bof (vof (ρ x2) 1) = o1 at *
  generalize bof (ρ x3) = sp at *
  generalize lf (ρ x4) = f at *
  go_simp
  first | (rw [if_neg (by rw [RC_ne]; exact id), RC_fold]; rfl) | (rw [zero_rc2]; simp only [RC_set0, RC_set1, RC_set2, RC_set3, RC_set4, RC_set5]; exact RC_fold)
end
attribute [local go_sem ↓] buildF
attribute [local go_sem] iof_r bof_r vof_0 vof_1 lf_L RC_lf
theorem resT {w : World} {fn : Func} {p : Tmp} {cs : Array Value} {g : Nat} (h : fn.results = #[.cell p 107]) (tmps : Array Value) (hp : tmps.getD p undef = .pointer (some ⟨g, 0, none⟩)) (hg : Row w g cs) (hs : cs.size = 70) : (results fn tmps).run Try.prog w = .ok (.agg cs) w :=
  results_tmps h tmps w g cs (by first | exact hp | simpa using hp) hg Try.underlying107 rfl infoF hs
set_option maxRecDepth 100000 in
set_option maxHeartbeats 1000000 in
theorem Told_c (m p0 p1 : Int) (o0 o1 sp : Bool) (a b : Int) (ha : 0 ≤ a) (ha' : a ≤ 4294967295) (hb : 0 ≤ b) (hb' : b ≤ 4294967295) (w : World) : Calls Try.prog 56 #[.agg #[.int .i64 m, .int .i64 p0, .int .i64 p1, .bool o0, .bool o1, .bool sp, .int .u32 a, .int .u32 b]] w fun e w' => e = .returned (.agg (RC m p0 p1 o0 o1 sp (rb a b))) ∧ Below w.heap.size w w' := by
  have f5 := fun W : World => rOf_c a b ha ha' hb hb' W
  generalize hF : rb a b = f at *
  clear hF
  have F5 := Lib.hid f5
  clear f5 ha ha' hb hb'
  have hB0 : Below w.heap.size w ((w.alloc (.cells #[.int .i64 m, .int .i64 p0, .int .i64 p1, .bool o0, .bool o1, .bool sp, .int .u32 a, .int .u32 b] 35)).alloc (.cells (RC 0 0 0 false false false fun _ => false) 107)) := ((Below.refl _ w).alloc (Nat.le_refl _) _).alloc (by simp) _
  obtain ⟨R0, R0'⟩ : Row ((w.alloc (.cells #[.int .i64 m, .int .i64 p0, .int .i64 p1, .bool o0, .bool o1, .bool sp, .int .u32 a, .int .u32 b] 35)).alloc (.cells (RC 0 0 0 false false false fun _ => false) 107)) w.heap.size #[.int .i64 m, .int .i64 p0, .int .i64 p1, .bool o0, .bool o1, .bool sp, .int .u32 a, .int .u32 b] := Row.of ((BoxN.new w 35 #[.int .i64 m, .int .i64 p0, .int .i64 p1, .bool o0, .bool o1, .bool sp, .int .u32 a, .int .u32 b]).alloc _)
  obtain ⟨R1, R1'⟩ : Row ((w.alloc (.cells #[.int .i64 m, .int .i64 p0, .int .i64 p1, .bool o0, .bool o1, .bool sp, .int .u32 a, .int .u32 b] 35)).alloc (.cells (RC 0 0 0 false false false fun _ => false) 107)) (w.heap.size + 1) (RC 0 0 0 false false false fun _ => false) := (by (have this := BoxN.new (w.alloc (.cells #[.int .i64 m, .int .i64 p0, .int .i64 p1, .bool o0, .bool o1, .bool sp, .int .u32 a, .int .u32 b] 35)) 107 (RC 0 0 0 false false false fun _ => false); rw [World.size_alloc] at this; exact Row.of this))
  go_enter Try.func56, Try.ntmps56
  go_wp2_with fail
  generalize (w.alloc (.cells #[.int .i64 m, .int .i64 p0, .int .i64 p1, .bool o0, .bool o1, .bool sp, .int .u32 a, .int .u32 b] 35)).alloc (.cells (RC 0 0 0 false false false fun _ => false) 107) = W0 at *
  have R1s : (rowAt W0 (w.heap.size + 1)).size = 70 := by rw [R1']; exact RC_size
  clear R1'
  (first | go_region_held3 (fun w' => isRow w' w.heap.size ∧ rowAt w' w.heap.size = #[.int .i64 m, .int .i64 p0, .int .i64 p1, .bool o0, .bool o1, .bool sp, .int .u32 a, .int .u32 b] ∧ isRow w' (w.heap.size + 1) ∧ (rowAt w' (w.heap.size + 1)).size = 70 ∧ Below w.heap.size w w')
    (first | exact ⟨R0, R0', R1, R1s, below_drew0 hB0⟩ | (go_split_ands; exact ⟨rk1 (by assumption) hb, rk2 (by assumption) (by assumption) hb, rk1 (by assumption) hb, (congrArg Array.size (rk3 (by assumption) hb)).trans (by assumption), bk (by assumption) (Below.size (by assumption)) hb⟩) | (go_split_ands; refine ⟨?_, ?_, ?_, ?_, ?_⟩ <;> go_simp))
    ((go_at_call 78; ((with_reducible refine (F5.out _).mono ?_); rintro e w4 ⟨rfl, hb⟩))) | fail)
  go_split_ands
  go_wp2
  exact bodyPost_ret (resT rfl _ rfl (Row.setRow (isRow_setRow_eq.mp (by assumption))) RC_size) rfl ⟨rfl, by assumption⟩
end Go.Proofs.Ytkbaghblchlcnaa
namespace Go.Proofs.Ytkbaghblchlcnaa
open Go.RowKit
theorem push_bitsL (a b g p : Int) (i : Nat) (hi : i < 64) : rb (setA .or a g p) (setB .or b g p) i = if i = spot g p then true else rb a b i := by
  unfold setA setB rb spot
  rcases mod2 g with hg | hg <;> rcases Nat.mod_two_eq_zero_or_one i with h | h <;> simp only [hg, h, if_true, if_false, show ¬ ((1 : Int) = 0) by omega, show ¬ (1 = 0) by omega]
  · rw [tb_or_w _ _ _ (by omega), tb_two_pow]
    by_cases e : pl p = i / 2
    · rw [if_pos (by simp; omega), decide_eq_true e, Bool.or_true]
    · rw [if_neg (by simp; omega), decide_eq_false e, Bool.or_false]
  · rw [if_neg (by simp; omega)]
  · rw [if_neg (by simp; omega)]
  · rw [tb_or_w _ _ _ (by omega), tb_two_pow]
    by_cases e : pl p = i / 2
    · rw [if_pos (by simp; omega), decide_eq_true e, Bool.or_true]
    · rw [if_neg (by simp; omega), decide_eq_false e, Bool.or_false]
theorem Lb_push (a b g p : Int) : Lb (fun j => if j = spot g p then true else rb a b j) = Lb (rb (setA .or a g p) (setB .or b g p)) := Lb_ext fun i hi => (push_bitsL a b g p i hi).symm
end Go.Proofs.Ytkbaghblchlcnaa
