-- Written by the program wip/gen/inj.py of this repository, out of the translation, for this claim. Not trusted: Lean checks it.
import Derived.Test.YtmioioaapikbkaaIAllx0
import Derived.Test.YtmioioaapikbkaaIAllx2
import Derived.Test.YtmioioaapikbkaaIAllx3
import Derived.Test.YtmioioaapikbkaaIAllx4
namespace Go.Proofs.Ytmioioaapikbkaa.IAll
open Go.RowKit Go.Proofs.YtmioioaapikbkaaW.PrintWords Go.Proofs.YtmioioaapikbkaaW.PrintLast Go.Proofs.YtmioioaapikbkaaW.PrintMore
attribute [local go_sem] max2_int min2_int max_two min_two max_three min_three max_four min_four   -- for this text's walks alone
set_option linter.unusedVariables false
set_option linter.unusedSimpArgs false

/-! ### crierlaw07_IrqOnce: function 3 -/
def crierlaw07_IrqOnce.l0 : Nat → Int → Bool → Int → Bool → Bool → Bool → Bool → Option (Bool)
  | 0, _, _, _, _, _, _, _ => none
  | k + 1, x1, x5, x6, x153000, x153001, x153002, x153003 => if x6 ≤ (wrap64 (Int.tmod x1 9)) then ((crierlaw07_play.f k x153000 x153001 x153002 x153003 (([1, 2] : List Int))).bind fun bt157 => (crierlaw07_IrqOnce.l0 k x1 x5 (wrap64 (x6 + 1)) bt157.1 bt157.2.1 bt157.2.2.1 bt157.2.2.2)) else ((irq_Step.f x153000 x153001 x153002 x153003 5).bind fun bt161 => ((irq_Step.f bt161.1 bt161.2.1 bt161.2.2.1 bt161.2.2.2 6).bind fun bt166 => (if x5 = true then ((irq_Ready.f x153000 x153001 x153002 x153003).bind fun t171 => (if t171 = true then (if bt161.2.2.2 = true then ((irq_Pending.f bt161.1 bt161.2.1 bt161.2.2.1 bt161.2.2.2).bind fun t172 => (if t172 = true then (some false) else ((irq_Phase.f bt166.1 bt166.2.1 bt166.2.2.1 bt166.2.2.2).bind fun t173 => (some (t173 == 0))))) else (some false)) else (some false))) else (some false))))
def crierlaw07_IrqOnce.f (k : Nat) (a0_0 : Bool) (a0_1 : Bool) (a0_2 : Bool) (a0_3 : Bool) (a1 : Int) : Option (Bool) := (crierlaw07_awake.f k).bind fun t153 => (if t153 = true then (crierlaw07_IrqOnce.l0 k a1 t153 0 true false false false) else (some false))
theorem crierlaw07_IrqOnce.mono_l : ∀ k, (∀ y0 y1 y2 y3 y4 y5 y6, LeO (crierlaw07_IrqOnce.l0 k y0 y1 y2 y3 y4 y5 y6) (crierlaw07_IrqOnce.l0 (k + 1) y0 y1 y2 y3 y4 y5 y6))
  | 0 => fun _ _ _ _ _ _ _ r h => by simp [crierlaw07_IrqOnce.l0] at h
  | k + 1 => by
    have ih0 := crierlaw07_IrqOnce.mono_l k
    · intro y0 y1 y2 y3 y4 y5 y6
      unfold crierlaw07_IrqOnce.l0
      repeat' first
      | (with_reducible exact ih0 _ _ _ _ _ _ _)
      | (with_reducible exact crierlaw07_awake.mono _)
      | (with_reducible exact crierlaw07_play.mono _ _ _ _ _ _)
      | (with_reducible exact LeO.refl _)
      | (with_reducible exact LeO.none _)
      | (with_reducible refine LeO.ite ?_ ?_)
      | (with_reducible refine LeO.bind ?_ (fun _ => ?_))
      | exact ih0 _ _ _ _ _ _ _
      | exact crierlaw07_awake.mono _
      | exact crierlaw07_play.mono _ _ _ _ _ _
      | exact LeO.none _
      | refine LeO.ite ?_ ?_
      | refine LeO.bind ?_ (fun _ => ?_)
theorem crierlaw07_IrqOnce.mono : ∀ a0 a1 a2 a3 a4 k, LeO (crierlaw07_IrqOnce.f k a0 a1 a2 a3 a4) (crierlaw07_IrqOnce.f (k + 1) a0 a1 a2 a3 a4) := by
  intro a0 a1 a2 a3 a4 k
  have ih0 := crierlaw07_IrqOnce.mono_l k
  unfold crierlaw07_IrqOnce.f
  repeat' first
      | (with_reducible exact ih0 _ _ _ _ _ _ _)
      | (with_reducible exact crierlaw07_awake.mono _)
      | (with_reducible exact crierlaw07_play.mono _ _ _ _ _ _)
      | (with_reducible exact LeO.refl _)
      | (with_reducible exact LeO.none _)
      | (with_reducible refine LeO.ite ?_ ?_)
      | (with_reducible refine LeO.bind ?_ (fun _ => ?_))
      | exact ih0 _ _ _ _ _ _ _
      | exact crierlaw07_awake.mono _
      | exact crierlaw07_play.mono _ _ _ _ _ _
      | exact LeO.none _
      | refine LeO.ite ?_ ?_
      | refine LeO.bind ?_ (fun _ => ?_)
set_option maxHeartbeats 8000000 in
set_option maxRecDepth 100000 in
theorem crierlaw07_IrqOnce.calls (k : Nat) (a0_0 : Bool) (a0_1 : Bool) (a0_2 : Bool) (a0_3 : Bool) (a1 : Int) (r : Bool) (w : World) (h : crierlaw07_IrqOnce.f k a0_0 a0_1 a0_2 a0_3 a1 = some r) (hT_ : Aside0 (r = true)) :
    Calls Try.prog 3 #[.agg #[.bool a0_0, .bool a0_1, .bool a0_2, .bool a0_3], .int .u8 a1] w fun e w' => e = .returned (.bool r) ∧ Below w.heap.size w w' := by
  have hu23 := Try.underlying23
  have HB := Aside0.mk (Below.refl w.heap.size w)
  have H : ((crierlaw07_awake.f k).bind fun t153 => (if t153 = true then (crierlaw07_IrqOnce.l0 k a1 t153 0 true false false false) else (some false))) = some r := h
  clear h
  replace H := Option.bind_eq_some_iff.mp H
  obtain ⟨t153, A30, H⟩ := H
  replace H : (if t153 = true then (crierlaw07_IrqOnce.l0 k a1 t153 0 true false false false) else (some false)) = some r := H
  have A3 := Aside0.mk A30
  clear A30
  by_cases c4 : t153 = true
  · subst c4
    have H1 : (crierlaw07_IrqOnce.l0 k a1 true 0 true false false false) = some r := by first | (rw [if_pos rfl] at H; exact H) | (rw [if_pos trivial] at H; exact H)
    clear H
    have H := H1
    clear H1
    have H' := Aside0.mk H
    clear H
    go_enter Try.func3, Try.ntmps3
    go_wp2_with (first | ((with_reducible refine gate_dst (N := 2) rfl ?_); refine box_event ?hg (N := 2) ?hd (cs := #[.bool a0_0, .bool a0_1, .bool a0_2, .bool a0_3]) (t := 23) ?hr ?_; (case hd => rfl); (case hg => rfl); (case hr => first | (go_simp; done) | (go_simp; rfl)); intro gb152 hg w5 hbox hb; have n0_ := Aside0.mk (below_step (by repeat (first | (with_reducible first | exact HB.out | apply below_alloc | apply pw_below_drewN | apply below_drew1) | exact HB.out)) hb); have n1_ := Aside0.mk (hbox); have n2_ := Aside0.mk ((by rw [hg]; exact (below_size (by repeat (first | (with_reducible first | exact HB.out | apply below_alloc | apply pw_below_drewN | apply below_drew1) | exact HB.out))) : w.heap.size ≤ gb152)); have n3_ := Aside0.mk ((by rw [hg]; exact (below_size (by repeat (first | (with_reducible first | exact HB.out | apply below_alloc | apply pw_below_drewN | apply below_drew1) | exact HB.out))) : w.heap.size ≤ gb152)); clear HB; have HB := n0_; have BK152 := n1_; have GW152 := n2_; have GE152 := n3_; clear n0_ n1_ n2_ n3_; clear hb hbox hg) | ((with_reducible refine gate_callee (f := 9) rfl ?_); refine goesL_ (some 9) rfl rfl Try.func9 (by kernel_rfl) rfl #[] rfl (by (try simp only [List.map_toArray, List.map_cons, List.map_nil]); first | done | rfl | (simp only [List.length_drop, List.length_take]; rfl)) ?_; (with_reducible refine (crierlaw07_awake.calls k  true _ A3.out).mono ?_); rintro e w6 ⟨rfl, hb⟩; refine ⟨_, rfl, ?_⟩; have n0_ := Aside0.mk (blk_below (g := gb152) (o := .cells #[.bool a0_0, .bool a0_1, .bool a0_2, .bool a0_3] 23 (0, 0)) (by (with_reducible repeat (first | refine blk_drewN ?_ _ | refine blk_drew ?_ | refine blk_alloc ?_ _)); exact BK152.out) hb); have n1_ := Aside0.mk (below_step (by repeat (first | (with_reducible first | exact HB.out | apply below_alloc | apply pw_below_drewN | apply below_drew1 | refine below_set ?_ GE152.out) | exact HB.out)) hb); clear BK152; clear HB; have BK152 := n0_; have HB := n1_; clear n0_ n1_; (try clear hb); (try clear hb2); (try clear hk); (try clear hi); have hcz7_0 : w6.cell? ⟨gb152, 0, none⟩ = some (.bool a0_0) := (blk_cell BK152.out 0).trans rfl; have hcz7_1 : w6.cell? ⟨gb152, 1, none⟩ = some (.bool a0_1) := (blk_cell BK152.out 1).trans rfl; have hcz7_2 : w6.cell? ⟨gb152, 2, none⟩ = some (.bool a0_2) := (blk_cell BK152.out 2).trans rfl; have hcz7_3 : w6.cell? ⟨gb152, 3, none⟩ = some (.bool a0_3) := (blk_cell BK152.out 3).trans rfl; have hfz7_0 := blk_frozen BK152.out 0; have hfz7_1 := blk_frozen BK152.out 1; have hfz7_2 := blk_frozen BK152.out 2; have hfz7_3 := blk_frozen BK152.out 3))
    go_loopg [6] k (fun kq v6 w' => ∃ (x6_1 : Int) (x153000_1 : Bool) (x153001_1 : Bool) (x153002_1 : Bool) (x153003_1 : Bool), v6 = .int .i64 x6_1 ∧ Aside0 (crierlaw07_IrqOnce.l0 kq a1 true x6_1 x153000_1 x153001_1 x153002_1 x153003_1 = some r) ∧ Aside0 (kq ≤ k) ∧ Aside0 (w'.heap[gb152]? = some (.cells #[.bool x153000_1, .bool x153001_1, .bool x153002_1, .bool x153003_1] 23 (0, 0))) ∧ Aside0 (Below w.heap.size w w'))
    case atStart => exact ⟨(0), (true), (false), (false), (false), (by first | rfl | (simp; done) | (simp [*]; done)), H', ⟨Nat.le_refl _⟩, ⟨by (with_reducible repeat (first | refine blk_drewN ?_ _ | refine blk_drew ?_ | refine blk_alloc ?_ _)); refine blk_put (cs := #[.bool true, .bool a0_1, .bool false, .bool false]) ?_ 1 _ rfl; (with_reducible repeat (first | refine blk_drewN ?_ _ | refine blk_drew ?_ | refine blk_alloc ?_ _)); refine blk_put (cs := #[.bool true, .bool a0_1, .bool a0_2, .bool false]) ?_ 2 _ rfl; (with_reducible repeat (first | refine blk_drewN ?_ _ | refine blk_drew ?_ | refine blk_alloc ?_ _)); refine blk_put (cs := #[.bool true, .bool a0_1, .bool a0_2, .bool a0_3]) ?_ 3 _ rfl; (with_reducible repeat (first | refine blk_drewN ?_ _ | refine blk_drew ?_ | refine blk_alloc ?_ _)); refine blk_put (cs := #[.bool a0_0, .bool a0_1, .bool a0_2, .bool a0_3]) ?_ 0 _ rfl; (with_reducible repeat (first | refine blk_drewN ?_ _ | refine blk_drew ?_ | refine blk_alloc ?_ _)); exact BK152.out⟩, ⟨by repeat (first | (with_reducible first | exact HB.out | apply below_alloc | apply pw_below_drewN | apply below_drew1 | refine below_set ?_ GE152.out) | exact HB.out)⟩⟩
    case round =>
      clear H'
      try clear p2
      try clear c3
      try clear c4
      try clear hcz7_0
      try clear hcz7_1
      try clear hcz7_2
      try clear hcz7_3
      try clear hfz7_0
      try clear hfz7_1
      try clear hfz7_2
      try clear hfz7_3
      obtain ⟨x6_1, x153000_1, x153001_1, x153002_1, x153003_1, rfl, HA, HK1, BK152, HB⟩ := hrel
      cases gk with
      | zero => exact absurd HA.out (by simp [crierlaw07_IrqOnce.l0])
      | succ k1 =>
        have H := HA.out
        clear HA
        simp only [crierlaw07_IrqOnce.l0] at H
        by_cases c8 : x6_1 ≤ (wrap64 (Int.tmod a1 9))
        · rw [if_pos c8] at H
          have c8b0 : decide (x6_1 ≤ (wrap64 (Int.tmod a1 9))) = true := decide_eq_true c8
          clear c8
          obtain ⟨y154, hy154⟩ : ∃ y_ : List Int, y_ = (([1, 2] : List Int)) := ⟨_, rfl⟩
          replace H : ((crierlaw07_play.f k1 x153000_1 x153001_1 x153002_1 x153003_1 y154).bind fun bt157 => (crierlaw07_IrqOnce.l0 k1 a1 true (wrap64 (x6_1 + 1)) bt157.1 bt157.2.1 bt157.2.2.1 bt157.2.2.2)) = some r := by first | (rw [hy154]; with_reducible exact H) | (have H2_ := (Option.bind_some _ _).symm.trans H; rw [hy154]; with_reducible exact H2_) | (have H2_ := (Option.bind_some _ _).symm.trans H; with_reducible exact H2_) | with_reducible exact H | (rw [hy154]; exact H) | exact H
          have Ny154 := Aside0.mk hy154
          clear hy154
          replace H := Option.bind_eq_some_iff.mp H
          obtain ⟨⟨t157, t158, t159, t160⟩, A90, H⟩ := H
          replace H : (crierlaw07_IrqOnce.l0 k1 a1 true (wrap64 (x6_1 + 1)) t157 t158 t159 t160) = some r := H
          have A9 := Aside0.mk A90
          clear A90
          have H' := Aside0.mk H
          clear H
          have hcz10_0 : wr.cell? ⟨gb152, 0, none⟩ = some (.bool x153000_1) := (blk_cell BK152.out 0).trans rfl
          have hcz10_1 : wr.cell? ⟨gb152, 1, none⟩ = some (.bool x153001_1) := (blk_cell BK152.out 1).trans rfl
          have hcz10_2 : wr.cell? ⟨gb152, 2, none⟩ = some (.bool x153002_1) := (blk_cell BK152.out 2).trans rfl
          have hcz10_3 : wr.cell? ⟨gb152, 3, none⟩ = some (.bool x153003_1) := (blk_cell BK152.out 3).trans rfl
          have hfz10_0 := blk_frozen BK152.out 0
          have hfz10_1 := blk_frozen BK152.out 1
          have hfz10_2 := blk_frozen BK152.out 2
          have hfz10_3 := blk_frozen BK152.out 3
          go_wp2_with (first | ((with_reducible refine gate_dst (N := 24) rfl ?_); refine Kd.R_lit (Kd.int .i64) _ 26 ?hg (N := 24) ?hd (xs := ([1, 2] : List Int)) (inner := [.int .i64 1, .int .i64 2]) (ok := fun _ => True) (okp := fun _ => True) ?hr ?hp (fun _ hk => hk) trivial (Below.refl _ _) (Nat.le_refl _) (by simp) ?_; (case hd => rfl); (case hg => rfl); (case hr => first | (go_simp; done) | (go_simp; rfl)); (case hp => exact (Reps.one (show Kd.M (Kd.int .i64) _ _ _ 1 [.int .i64 1] from rfl) (Reps.one (show Kd.M (Kd.int .i64) _ _ _ 2 [.int .i64 2] from rfl) (Reps.none _ _)))); intro v155 w11 ho12 hb hg_ hnew_; clear hg_ hnew_; (first | rw [← Ny154.out] at ho12 | (simp only [Int.reduceToNat] at ho12; rw [← Ny154.out] at ho12)); have n0_ := Aside0.mk (Kd.R_lower ho12 (below_size (by repeat (first | (with_reducible first | exact HB.out | apply below_alloc | apply pw_below_drewN | apply below_drew1 | refine below_set ?_ GE152.out) | exact HB.out)))); have n1_ := Aside0.mk (blk_below (g := gb152) (o := .cells #[.bool x153000_1, .bool x153001_1, .bool x153002_1, .bool x153003_1] 23 (0, 0)) (by (with_reducible repeat (first | refine blk_drewN ?_ _ | refine blk_drew ?_ | refine blk_alloc ?_ _)); exact BK152.out) hb); have n2_ := Aside0.mk (below_step (by repeat (first | (with_reducible first | exact HB.out | apply below_alloc | apply pw_below_drewN | apply below_drew1 | refine below_set ?_ GE152.out) | exact HB.out)) hb); clear BK152; clear HB; have HO156 := n0_; have BK152 := n1_; have HB := n2_; clear n0_ n1_ n2_; clear hb ho12; obtain ⟨Ao13, co13, eo13⟩ := Kd.R_slice HO156.out; subst eo13) | ((with_reducible refine gate_callee (f := 10) rfl ?_); refine goesL_ (some 25) rfl rfl Try.func10 (by kernel_rfl) rfl #[.agg #[.bool x153000_1, .bool x153001_1, .bool x153002_1, .bool x153003_1], .slice Ao13 y154.length co13] rfl (by (try simp only [List.map_toArray, List.map_cons, List.map_nil]); first | done | rfl | (simp only [List.length_drop, List.length_take]; rfl)) ?_; (with_reducible refine (crierlaw07_play.calls k1 x153000_1 x153001_1 x153002_1 x153003_1 _ _ y154 t157 t158 t159 t160 _ ?side1 ?side2 A9.out).mono ?_); (case side1 => repeat (first | exact (Kd.R_reads' HO156.out).2.2 | (with_reducible refine Kd.C_alloc ?_ _) | (with_reducible refine Kd.C_drewN ?_ _) | (with_reducible refine Kd.C_drew ?_))); (case side2 => exact (Kd.R_reads' HO156.out).2.1); rintro e w14 ⟨rfl, hb⟩; refine ⟨_, rfl, ?_⟩; have n0_ := Aside0.mk (Kd.R_below (by (with_reducible repeat (first | apply Kd.R_alloc | apply Kd.R_drewN | apply Kd.R_drew)); exact HO156.out) hb); have n1_ := Aside0.mk (blk_below (g := gb152) (o := .cells #[.bool x153000_1, .bool x153001_1, .bool x153002_1, .bool x153003_1] 23 (0, 0)) (by (with_reducible repeat (first | refine blk_drewN ?_ _ | refine blk_drew ?_ | refine blk_alloc ?_ _)); exact BK152.out) hb); have n2_ := Aside0.mk (below_step (by repeat (first | (with_reducible first | exact HB.out | apply below_alloc | apply pw_below_drewN | apply below_drew1 | refine below_set ?_ GE152.out) | exact HB.out)) hb); clear HO156; clear BK152; clear HB; have HO156 := n0_; have BK152 := n1_; have HB := n2_; clear n0_ n1_ n2_; (try clear hb); (try clear hb2); (try clear hk); (try clear hi); have hcz15_0 : w14.cell? ⟨gb152, 0, none⟩ = some (.bool x153000_1) := (blk_cell BK152.out 0).trans rfl; have hcz15_1 : w14.cell? ⟨gb152, 1, none⟩ = some (.bool x153001_1) := (blk_cell BK152.out 1).trans rfl; have hcz15_2 : w14.cell? ⟨gb152, 2, none⟩ = some (.bool x153002_1) := (blk_cell BK152.out 2).trans rfl; have hcz15_3 : w14.cell? ⟨gb152, 3, none⟩ = some (.bool x153003_1) := (blk_cell BK152.out 3).trans rfl; have hfz15_0 := blk_frozen BK152.out 0; have hfz15_1 := blk_frozen BK152.out 1; have hfz15_2 := blk_frozen BK152.out 2; have hfz15_3 := blk_frozen BK152.out 3))
          go_roundg k1
          case measure => have := HK1.out; omega
          case rel => exact ⟨(wrap64 (x6_1 + 1)), (t157), (t158), (t159), (t160), (by first | rfl | (simp; done) | (simp [*]; done)), H', ⟨by have := HK1.out; omega⟩, ⟨by (with_reducible repeat (first | refine blk_drewN ?_ _ | refine blk_drew ?_ | refine blk_alloc ?_ _)); refine blk_put (cs := #[.bool t157, .bool t158, .bool t159, .bool x153003_1]) ?_ 3 _ rfl; (with_reducible repeat (first | refine blk_drewN ?_ _ | refine blk_drew ?_ | refine blk_alloc ?_ _)); refine blk_put (cs := #[.bool t157, .bool t158, .bool x153002_1, .bool x153003_1]) ?_ 2 _ rfl; (with_reducible repeat (first | refine blk_drewN ?_ _ | refine blk_drew ?_ | refine blk_alloc ?_ _)); refine blk_put (cs := #[.bool t157, .bool x153001_1, .bool x153002_1, .bool x153003_1]) ?_ 1 _ rfl; (with_reducible repeat (first | refine blk_drewN ?_ _ | refine blk_drew ?_ | refine blk_alloc ?_ _)); refine blk_put (cs := #[.bool x153000_1, .bool x153001_1, .bool x153002_1, .bool x153003_1]) ?_ 0 _ rfl; (with_reducible repeat (first | refine blk_drewN ?_ _ | refine blk_drew ?_ | refine blk_alloc ?_ _)); exact BK152.out⟩, ⟨by repeat (first | (with_reducible first | exact HB.out | apply below_alloc | apply pw_below_drewN | apply below_drew1 | refine below_set ?_ GE152.out) | exact HB.out)⟩⟩
        · rw [if_neg c8] at H
          have c8b0 : decide (x6_1 ≤ (wrap64 (Int.tmod a1 9))) = false := decide_eq_false c8
          clear c8
          replace H := Option.bind_eq_some_iff.mp H
          obtain ⟨⟨t161, t162, t163, t164⟩, A160, H⟩ := H
          replace H : ((irq_Step.f t161 t162 t163 t164 6).bind fun bt166 => (if true = true then ((irq_Ready.f x153000_1 x153001_1 x153002_1 x153003_1).bind fun t171 => (if t171 = true then (if t164 = true then ((irq_Pending.f t161 t162 t163 t164).bind fun t172 => (if t172 = true then (some false) else ((irq_Phase.f bt166.1 bt166.2.1 bt166.2.2.1 bt166.2.2.2).bind fun t173 => (some (t173 == 0))))) else (some false)) else (some false))) else (some false))) = some r := H
          have A16 := Aside0.mk A160
          clear A160
          replace H := Option.bind_eq_some_iff.mp H
          obtain ⟨⟨t166, t167, t168, t169⟩, A170, H⟩ := H
          replace H : (if true = true then ((irq_Ready.f x153000_1 x153001_1 x153002_1 x153003_1).bind fun t171 => (if t171 = true then (if t164 = true then ((irq_Pending.f t161 t162 t163 t164).bind fun t172 => (if t172 = true then (some false) else ((irq_Phase.f t166 t167 t168 t169).bind fun t173 => (some (t173 == 0))))) else (some false)) else (some false))) else (some false)) = some r := H
          have A17 := Aside0.mk A170
          clear A170
          by_cases c18 : true = true
          · clear c18
            have H1 : ((irq_Ready.f x153000_1 x153001_1 x153002_1 x153003_1).bind fun t171 => (if t171 = true then (if t164 = true then ((irq_Pending.f t161 t162 t163 t164).bind fun t172 => (if t172 = true then (some false) else ((irq_Phase.f t166 t167 t168 t169).bind fun t173 => (some (t173 == 0))))) else (some false)) else (some false))) = some r := by first | (rw [if_pos rfl] at H; exact H) | (rw [if_pos trivial] at H; exact H)
            clear H
            have H := H1
            clear H1
            replace H := Option.bind_eq_some_iff.mp H
            obtain ⟨t171, A190, H⟩ := H
            replace H : (if t171 = true then (if t164 = true then ((irq_Pending.f t161 t162 t163 t164).bind fun t172 => (if t172 = true then (some false) else ((irq_Phase.f t166 t167 t168 t169).bind fun t173 => (some (t173 == 0))))) else (some false)) else (some false)) = some r := H
            have A19 := Aside0.mk A190
            clear A190
            by_cases c20 : t171 = true
            · subst c20
              have H1 : (if t164 = true then ((irq_Pending.f t161 t162 t163 t164).bind fun t172 => (if t172 = true then (some false) else ((irq_Phase.f t166 t167 t168 t169).bind fun t173 => (some (t173 == 0))))) else (some false)) = some r := by first | (rw [if_pos rfl] at H; exact H) | (rw [if_pos trivial] at H; exact H)
              clear H
              have H := H1
              clear H1
              by_cases c21 : t164 = true
              · subst c21
                have H1 : ((irq_Pending.f t161 t162 t163 true).bind fun t172 => (if t172 = true then (some false) else ((irq_Phase.f t166 t167 t168 t169).bind fun t173 => (some (t173 == 0))))) = some r := by first | (rw [if_pos rfl] at H; exact H) | (rw [if_pos trivial] at H; exact H)
                clear H
                have H := H1
                clear H1
                replace H := Option.bind_eq_some_iff.mp H
                obtain ⟨t172, A220, H⟩ := H
                replace H : (if t172 = true then (some false) else ((irq_Phase.f t166 t167 t168 t169).bind fun t173 => (some (t173 == 0)))) = some r := H
                have A22 := Aside0.mk A220
                clear A220
                by_cases c23 : t172 = true
                · subst c23
                  have H1 : (some false) = some r := by first | (rw [if_pos rfl] at H; exact H) | (rw [if_pos trivial] at H; exact H)
                  clear H
                  have H := H1
                  clear H1
                  obtain rfl := Option.some.inj H
                  exact absurd hT_.out (by simp)
                · replace c23 := Bool.eq_false_iff.mpr c23
                  subst c23
                  have H1 : ((irq_Phase.f t166 t167 t168 t169).bind fun t173 => (some (t173 == 0))) = some r := by rw [if_neg (show ¬ (false = true) by decide)] at H; exact H
                  clear H
                  have H := H1
                  clear H1
                  replace H := Option.bind_eq_some_iff.mp H
                  obtain ⟨t173, A380, H⟩ := H
                  replace H : (some (t173 == 0)) = some r := H
                  have A38 := Aside0.mk A380
                  clear A380
                  obtain rfl := Option.some.inj H
                  have hcz39_0 : wr.cell? ⟨gb152, 0, none⟩ = some (.bool x153000_1) := (blk_cell BK152.out 0).trans rfl
                  have hcz39_1 : wr.cell? ⟨gb152, 1, none⟩ = some (.bool x153001_1) := (blk_cell BK152.out 1).trans rfl
                  have hcz39_2 : wr.cell? ⟨gb152, 2, none⟩ = some (.bool x153002_1) := (blk_cell BK152.out 2).trans rfl
                  have hcz39_3 : wr.cell? ⟨gb152, 3, none⟩ = some (.bool x153003_1) := (blk_cell BK152.out 3).trans rfl
                  have hfz39_0 := blk_frozen BK152.out 0
                  have hfz39_1 := blk_frozen BK152.out 1
                  have hfz39_2 := blk_frozen BK152.out 2
                  have hfz39_3 := blk_frozen BK152.out 3
                  go_wp2_with (first | ((with_reducible refine gate_callee (f := 11) rfl ?_); refine goesL_ (some 27) rfl rfl Try.func11 (by kernel_rfl) rfl #[.agg #[.bool x153000_1, .bool x153001_1, .bool x153002_1, .bool x153003_1], .int .i64 5] rfl (by (try simp only [List.map_toArray, List.map_cons, List.map_nil]); first | done | rfl | (simp only [List.length_drop, List.length_take]; rfl)) ?_; (with_reducible refine (irq_Step.calls x153000_1 x153001_1 x153002_1 x153003_1 5 t161 t162 t163 true _ A16.out).mono ?_); rintro e w40 ⟨rfl, hb⟩; refine ⟨_, rfl, ?_⟩; have n0_ := Aside0.mk (blk_below (g := gb152) (o := .cells #[.bool x153000_1, .bool x153001_1, .bool x153002_1, .bool x153003_1] 23 (0, 0)) (by (with_reducible repeat (first | refine blk_drewN ?_ _ | refine blk_drew ?_ | refine blk_alloc ?_ _)); exact BK152.out) hb); have n1_ := Aside0.mk (below_step (by repeat (first | (with_reducible first | exact HB.out | apply below_alloc | apply pw_below_drewN | apply below_drew1 | refine below_set ?_ GE152.out) | exact HB.out)) hb); clear BK152; clear HB; have BK152 := n0_; have HB := n1_; clear n0_ n1_; (try clear hb); (try clear hb2); (try clear hk); (try clear hi)) | ((with_reducible refine gate_dst (N := 7) rfl ?_); refine box_event ?hg (N := 7) ?hd (cs := #[.bool false, .bool false, .bool false, .bool false]) (t := 23) ?hr ?_; (case hd => rfl); (case hg => rfl); (case hr => first | (go_simp; done) | (go_simp; rfl)); intro gb165 hg w41 hbox hb; have n0_ := Aside0.mk (blk_below (g := gb152) (o := .cells #[.bool x153000_1, .bool x153001_1, .bool x153002_1, .bool x153003_1] 23 (0, 0)) (by (with_reducible repeat (first | refine blk_drewN ?_ _ | refine blk_drew ?_ | refine blk_alloc ?_ _)); exact BK152.out) hb); have n1_ := Aside0.mk (below_step (by repeat (first | (with_reducible first | exact HB.out | apply below_alloc | apply pw_below_drewN | apply below_drew1 | refine below_set ?_ GE152.out) | exact HB.out)) hb); have n2_ := Aside0.mk (hbox); have n3_ := Aside0.mk ((by rw [hg]; exact (below_size (by repeat (first | (with_reducible first | exact HB.out | apply below_alloc | apply pw_below_drewN | apply below_drew1 | refine below_set ?_ GE152.out) | exact HB.out))) : w.heap.size ≤ gb165)); have n4_ := Aside0.mk ((by rw [hg]; exact (below_size (by repeat (first | (with_reducible first | exact HB.out | apply below_alloc | apply pw_below_drewN | apply below_drew1 | refine below_set ?_ GE152.out) | exact HB.out))) : w.heap.size ≤ gb165)); have n5_ := Aside0.mk ((by rw [hg]; exact Nat.ne_of_lt (blk_lt (g := gb152) (o := .cells #[.bool x153000_1, .bool x153001_1, .bool x153002_1, .bool x153003_1] 23 (0, 0)) (by (with_reducible repeat (first | refine blk_drewN ?_ _ | refine blk_drew ?_ | refine blk_alloc ?_ _)); exact BK152.out)) : gb152 ≠ gb165)); have n6_ := Aside0.mk ((by rw [hg]; exact Nat.ne_of_gt (blk_lt (g := gb152) (o := .cells #[.bool x153000_1, .bool x153001_1, .bool x153002_1, .bool x153003_1] 23 (0, 0)) (by (with_reducible repeat (first | refine blk_drewN ?_ _ | refine blk_drew ?_ | refine blk_alloc ?_ _)); exact BK152.out)) : gb165 ≠ gb152)); clear BK152; clear HB; have BK152 := n0_; have HB := n1_; have BK165 := n2_; have GW165 := n3_; have GE165 := n4_; have NB152_165 := n5_; have NB165_152 := n6_; clear n0_ n1_ n2_ n3_ n4_ n5_ n6_; clear hb hbox hg; have hnb42 := NB165_152.out; have hnc42 := NB152_165.out; have hcz43_0 : w41.cell? ⟨gb165, 0, none⟩ = some (.bool false) := (blk_cell BK165.out 0).trans rfl; have hcz43_1 : w41.cell? ⟨gb165, 1, none⟩ = some (.bool false) := (blk_cell BK165.out 1).trans rfl; have hcz43_2 : w41.cell? ⟨gb165, 2, none⟩ = some (.bool false) := (blk_cell BK165.out 2).trans rfl; have hcz43_3 : w41.cell? ⟨gb165, 3, none⟩ = some (.bool false) := (blk_cell BK165.out 3).trans rfl; have hfz43_0 := blk_frozen BK165.out 0; have hfz43_1 := blk_frozen BK165.out 1; have hfz43_2 := blk_frozen BK165.out 2; have hfz43_3 := blk_frozen BK165.out 3) | ((with_reducible refine gate_callee (f := 11) rfl ?_); refine goesL_ (some 29) rfl rfl Try.func11 (by kernel_rfl) rfl #[.agg #[.bool t161, .bool t162, .bool t163, .bool true], .int .i64 6] rfl (by (try simp only [List.map_toArray, List.map_cons, List.map_nil]); first | done | rfl | (simp only [List.length_drop, List.length_take]; rfl)) ?_; (with_reducible refine (irq_Step.calls t161 t162 t163 true 6 t166 t167 t168 t169 _ A17.out).mono ?_); rintro e w44 ⟨rfl, hb⟩; refine ⟨_, rfl, ?_⟩; have n0_ := Aside0.mk (blk_below (g := gb152) (o := .cells #[.bool x153000_1, .bool x153001_1, .bool x153002_1, .bool x153003_1] 23 (0, 0)) (by (with_reducible repeat (first | refine blk_drewN ?_ _ | refine blk_drew ?_ | refine blk_alloc ?_ _)); refine blk_far ?_ NB152_165.out _; (with_reducible repeat (first | refine blk_drewN ?_ _ | refine blk_drew ?_ | refine blk_alloc ?_ _)); refine blk_far ?_ NB152_165.out _; (with_reducible repeat (first | refine blk_drewN ?_ _ | refine blk_drew ?_ | refine blk_alloc ?_ _)); refine blk_far ?_ NB152_165.out _; (with_reducible repeat (first | refine blk_drewN ?_ _ | refine blk_drew ?_ | refine blk_alloc ?_ _)); refine blk_far ?_ NB152_165.out _; (with_reducible repeat (first | refine blk_drewN ?_ _ | refine blk_drew ?_ | refine blk_alloc ?_ _)); exact BK152.out) hb); have n1_ := Aside0.mk (blk_below (g := gb165) (o := .cells #[.bool t161, .bool t162, .bool t163, .bool true] 23 (0, 0)) (by (with_reducible repeat (first | refine blk_drewN ?_ _ | refine blk_drew ?_ | refine blk_alloc ?_ _)); refine blk_put (cs := #[.bool t161, .bool t162, .bool t163, .bool false]) ?_ 3 _ rfl; (with_reducible repeat (first | refine blk_drewN ?_ _ | refine blk_drew ?_ | refine blk_alloc ?_ _)); refine blk_put (cs := #[.bool t161, .bool t162, .bool false, .bool false]) ?_ 2 _ rfl; (with_reducible repeat (first | refine blk_drewN ?_ _ | refine blk_drew ?_ | refine blk_alloc ?_ _)); refine blk_put (cs := #[.bool t161, .bool false, .bool false, .bool false]) ?_ 1 _ rfl; (with_reducible repeat (first | refine blk_drewN ?_ _ | refine blk_drew ?_ | refine blk_alloc ?_ _)); refine blk_put (cs := #[.bool false, .bool false, .bool false, .bool false]) ?_ 0 _ rfl; (with_reducible repeat (first | refine blk_drewN ?_ _ | refine blk_drew ?_ | refine blk_alloc ?_ _)); exact BK165.out) hb); have n2_ := Aside0.mk (below_step (by repeat (first | (with_reducible first | exact HB.out | apply below_alloc | apply pw_below_drewN | apply below_drew1 | refine below_set ?_ GE152.out | refine below_set ?_ GE165.out) | exact HB.out)) hb); clear BK152; clear BK165; clear HB; have BK152 := n0_; have BK165 := n1_; have HB := n2_; clear n0_ n1_ n2_; (try clear hb); (try clear hb2); (try clear hk); (try clear hi)) | ((with_reducible refine gate_dst (N := 8) rfl ?_); refine box_event ?hg (N := 8) ?hd (cs := #[.bool false, .bool false, .bool false, .bool false]) (t := 23) ?hr ?_; (case hd => rfl); (case hg => rfl); (case hr => first | (go_simp; done) | (go_simp; rfl)); intro gb170 hg w45 hbox hb; have n0_ := Aside0.mk (blk_below (g := gb152) (o := .cells #[.bool x153000_1, .bool x153001_1, .bool x153002_1, .bool x153003_1] 23 (0, 0)) (by (with_reducible repeat (first | refine blk_drewN ?_ _ | refine blk_drew ?_ | refine blk_alloc ?_ _)); exact BK152.out) hb); have n1_ := Aside0.mk (blk_below (g := gb165) (o := .cells #[.bool t161, .bool t162, .bool t163, .bool true] 23 (0, 0)) (by (with_reducible repeat (first | refine blk_drewN ?_ _ | refine blk_drew ?_ | refine blk_alloc ?_ _)); exact BK165.out) hb); have n2_ := Aside0.mk (below_step (by repeat (first | (with_reducible first | exact HB.out | apply below_alloc | apply pw_below_drewN | apply below_drew1 | refine below_set ?_ GE152.out | refine below_set ?_ GE165.out) | exact HB.out)) hb); have n3_ := Aside0.mk (hbox); have n4_ := Aside0.mk ((by rw [hg]; exact (below_size (by repeat (first | (with_reducible first | exact HB.out | apply below_alloc | apply pw_below_drewN | apply below_drew1 | refine below_set ?_ GE152.out | refine below_set ?_ GE165.out) | exact HB.out))) : w.heap.size ≤ gb170)); have n5_ := Aside0.mk ((by rw [hg]; exact (below_size (by repeat (first | (with_reducible first | exact HB.out | apply below_alloc | apply pw_below_drewN | apply below_drew1 | refine below_set ?_ GE152.out | refine below_set ?_ GE165.out) | exact HB.out))) : w.heap.size ≤ gb170)); have n6_ := Aside0.mk ((by rw [hg]; exact Nat.ne_of_lt (blk_lt (g := gb152) (o := .cells #[.bool x153000_1, .bool x153001_1, .bool x153002_1, .bool x153003_1] 23 (0, 0)) (by (with_reducible repeat (first | refine blk_drewN ?_ _ | refine blk_drew ?_ | refine blk_alloc ?_ _)); exact BK152.out)) : gb152 ≠ gb170)); have n7_ := Aside0.mk ((by rw [hg]; exact Nat.ne_of_gt (blk_lt (g := gb152) (o := .cells #[.bool x153000_1, .bool x153001_1, .bool x153002_1, .bool x153003_1] 23 (0, 0)) (by (with_reducible repeat (first | refine blk_drewN ?_ _ | refine blk_drew ?_ | refine blk_alloc ?_ _)); exact BK152.out)) : gb170 ≠ gb152)); have n8_ := Aside0.mk ((by rw [hg]; exact Nat.ne_of_lt (blk_lt (g := gb165) (o := .cells #[.bool t161, .bool t162, .bool t163, .bool true] 23 (0, 0)) (by (with_reducible repeat (first | refine blk_drewN ?_ _ | refine blk_drew ?_ | refine blk_alloc ?_ _)); exact BK165.out)) : gb165 ≠ gb170)); have n9_ := Aside0.mk ((by rw [hg]; exact Nat.ne_of_gt (blk_lt (g := gb165) (o := .cells #[.bool t161, .bool t162, .bool t163, .bool true] 23 (0, 0)) (by (with_reducible repeat (first | refine blk_drewN ?_ _ | refine blk_drew ?_ | refine blk_alloc ?_ _)); exact BK165.out)) : gb170 ≠ gb165)); clear BK152; clear BK165; clear HB; have BK152 := n0_; have BK165 := n1_; have HB := n2_; have BK170 := n3_; have GW170 := n4_; have GE170 := n5_; have NB152_170 := n6_; have NB170_152 := n7_; have NB165_170 := n8_; have NB170_165 := n9_; clear n0_ n1_ n2_ n3_ n4_ n5_ n6_ n7_ n8_ n9_; clear hb hbox hg; have hnb46 := NB170_152.out; have hnc46 := NB152_170.out; have hnb47 := NB170_165.out; have hnc47 := NB165_170.out; have hcz48_0 : w45.cell? ⟨gb170, 0, none⟩ = some (.bool false) := (blk_cell BK170.out 0).trans rfl; have hcz48_1 : w45.cell? ⟨gb170, 1, none⟩ = some (.bool false) := (blk_cell BK170.out 1).trans rfl; have hcz48_2 : w45.cell? ⟨gb170, 2, none⟩ = some (.bool false) := (blk_cell BK170.out 2).trans rfl; have hcz48_3 : w45.cell? ⟨gb170, 3, none⟩ = some (.bool false) := (blk_cell BK170.out 3).trans rfl; have hfz48_0 := blk_frozen BK170.out 0; have hfz48_1 := blk_frozen BK170.out 1; have hfz48_2 := blk_frozen BK170.out 2; have hfz48_3 := blk_frozen BK170.out 3; have hcz49_0 : w45.cell? ⟨gb152, 0, none⟩ = some (.bool x153000_1) := (blk_cell BK152.out 0).trans rfl; have hcz49_1 : w45.cell? ⟨gb152, 1, none⟩ = some (.bool x153001_1) := (blk_cell BK152.out 1).trans rfl; have hcz49_2 : w45.cell? ⟨gb152, 2, none⟩ = some (.bool x153002_1) := (blk_cell BK152.out 2).trans rfl; have hcz49_3 : w45.cell? ⟨gb152, 3, none⟩ = some (.bool x153003_1) := (blk_cell BK152.out 3).trans rfl; have hfz49_0 := blk_frozen BK152.out 0; have hfz49_1 := blk_frozen BK152.out 1; have hfz49_2 := blk_frozen BK152.out 2; have hfz49_3 := blk_frozen BK152.out 3) | (go_at_call 12; (with_reducible refine (irq_Ready.calls x153000_1 x153001_1 x153002_1 x153003_1 true _ A19.out).mono ?_); rintro e w50 ⟨rfl, hb⟩; have n0_ := Aside0.mk (blk_below (g := gb152) (o := .cells #[.bool x153000_1, .bool x153001_1, .bool x153002_1, .bool x153003_1] 23 (0, 0)) (by (with_reducible repeat (first | refine blk_drewN ?_ _ | refine blk_drew ?_ | refine blk_alloc ?_ _)); refine blk_far ?_ NB152_170.out _; (with_reducible repeat (first | refine blk_drewN ?_ _ | refine blk_drew ?_ | refine blk_alloc ?_ _)); refine blk_far ?_ NB152_170.out _; (with_reducible repeat (first | refine blk_drewN ?_ _ | refine blk_drew ?_ | refine blk_alloc ?_ _)); refine blk_far ?_ NB152_170.out _; (with_reducible repeat (first | refine blk_drewN ?_ _ | refine blk_drew ?_ | refine blk_alloc ?_ _)); refine blk_far ?_ NB152_170.out _; (with_reducible repeat (first | refine blk_drewN ?_ _ | refine blk_drew ?_ | refine blk_alloc ?_ _)); exact BK152.out) hb); have n1_ := Aside0.mk (blk_below (g := gb165) (o := .cells #[.bool t161, .bool t162, .bool t163, .bool true] 23 (0, 0)) (by (with_reducible repeat (first | refine blk_drewN ?_ _ | refine blk_drew ?_ | refine blk_alloc ?_ _)); refine blk_far ?_ NB165_170.out _; (with_reducible repeat (first | refine blk_drewN ?_ _ | refine blk_drew ?_ | refine blk_alloc ?_ _)); refine blk_far ?_ NB165_170.out _; (with_reducible repeat (first | refine blk_drewN ?_ _ | refine blk_drew ?_ | refine blk_alloc ?_ _)); refine blk_far ?_ NB165_170.out _; (with_reducible repeat (first | refine blk_drewN ?_ _ | refine blk_drew ?_ | refine blk_alloc ?_ _)); refine blk_far ?_ NB165_170.out _; (with_reducible repeat (first | refine blk_drewN ?_ _ | refine blk_drew ?_ | refine blk_alloc ?_ _)); exact BK165.out) hb); have n2_ := Aside0.mk (blk_below (g := gb170) (o := .cells #[.bool t166, .bool t167, .bool t168, .bool t169] 23 (0, 0)) (by (with_reducible repeat (first | refine blk_drewN ?_ _ | refine blk_drew ?_ | refine blk_alloc ?_ _)); refine blk_put (cs := #[.bool t166, .bool t167, .bool t168, .bool false]) ?_ 3 _ rfl; (with_reducible repeat (first | refine blk_drewN ?_ _ | refine blk_drew ?_ | refine blk_alloc ?_ _)); refine blk_put (cs := #[.bool t166, .bool t167, .bool false, .bool false]) ?_ 2 _ rfl; (with_reducible repeat (first | refine blk_drewN ?_ _ | refine blk_drew ?_ | refine blk_alloc ?_ _)); refine blk_put (cs := #[.bool t166, .bool false, .bool false, .bool false]) ?_ 1 _ rfl; (with_reducible repeat (first | refine blk_drewN ?_ _ | refine blk_drew ?_ | refine blk_alloc ?_ _)); refine blk_put (cs := #[.bool false, .bool false, .bool false, .bool false]) ?_ 0 _ rfl; (with_reducible repeat (first | refine blk_drewN ?_ _ | refine blk_drew ?_ | refine blk_alloc ?_ _)); exact BK170.out) hb); have n3_ := Aside0.mk (below_step (by repeat (first | (with_reducible first | exact HB.out | apply below_alloc | apply pw_below_drewN | apply below_drew1 | refine below_set ?_ GE152.out | refine below_set ?_ GE165.out | refine below_set ?_ GE170.out) | exact HB.out)) hb); clear BK152; clear BK165; clear BK170; clear HB; have BK152 := n0_; have BK165 := n1_; have BK170 := n2_; have HB := n3_; clear n0_ n1_ n2_ n3_; (try clear hb); (try clear hb2); (try clear hk); (try clear hi); have hcz51_0 : w50.cell? ⟨gb165, 0, none⟩ = some (.bool t161) := (blk_cell BK165.out 0).trans rfl; have hcz51_1 : w50.cell? ⟨gb165, 1, none⟩ = some (.bool t162) := (blk_cell BK165.out 1).trans rfl; have hcz51_2 : w50.cell? ⟨gb165, 2, none⟩ = some (.bool t163) := (blk_cell BK165.out 2).trans rfl; have hcz51_3 : w50.cell? ⟨gb165, 3, none⟩ = some (.bool true) := (blk_cell BK165.out 3).trans rfl; have hfz51_0 := blk_frozen BK165.out 0; have hfz51_1 := blk_frozen BK165.out 1; have hfz51_2 := blk_frozen BK165.out 2; have hfz51_3 := blk_frozen BK165.out 3) | (go_at_call 13; (with_reducible refine (irq_Pending.calls t161 t162 t163 true false _ A22.out).mono ?_); rintro e w52 ⟨rfl, hb⟩; have n0_ := Aside0.mk (blk_below (g := gb152) (o := .cells #[.bool x153000_1, .bool x153001_1, .bool x153002_1, .bool x153003_1] 23 (0, 0)) (by (with_reducible repeat (first | refine blk_drewN ?_ _ | refine blk_drew ?_ | refine blk_alloc ?_ _)); exact BK152.out) hb); have n1_ := Aside0.mk (blk_below (g := gb165) (o := .cells #[.bool t161, .bool t162, .bool t163, .bool true] 23 (0, 0)) (by (with_reducible repeat (first | refine blk_drewN ?_ _ | refine blk_drew ?_ | refine blk_alloc ?_ _)); exact BK165.out) hb); have n2_ := Aside0.mk (blk_below (g := gb170) (o := .cells #[.bool t166, .bool t167, .bool t168, .bool t169] 23 (0, 0)) (by (with_reducible repeat (first | refine blk_drewN ?_ _ | refine blk_drew ?_ | refine blk_alloc ?_ _)); exact BK170.out) hb); have n3_ := Aside0.mk (below_step (by repeat (first | (with_reducible first | exact HB.out | apply below_alloc | apply pw_below_drewN | apply below_drew1 | refine below_set ?_ GE152.out | refine below_set ?_ GE165.out | refine below_set ?_ GE170.out) | exact HB.out)) hb); clear BK152; clear BK165; clear BK170; clear HB; have BK152 := n0_; have BK165 := n1_; have BK170 := n2_; have HB := n3_; clear n0_ n1_ n2_ n3_; (try clear hb); (try clear hb2); (try clear hk); (try clear hi); have hcz53_0 : w52.cell? ⟨gb170, 0, none⟩ = some (.bool t166) := (blk_cell BK170.out 0).trans rfl; have hcz53_1 : w52.cell? ⟨gb170, 1, none⟩ = some (.bool t167) := (blk_cell BK170.out 1).trans rfl; have hcz53_2 : w52.cell? ⟨gb170, 2, none⟩ = some (.bool t168) := (blk_cell BK170.out 2).trans rfl; have hcz53_3 : w52.cell? ⟨gb170, 3, none⟩ = some (.bool t169) := (blk_cell BK170.out 3).trans rfl; have hfz53_0 := blk_frozen BK170.out 0; have hfz53_1 := blk_frozen BK170.out 1; have hfz53_2 := blk_frozen BK170.out 2; have hfz53_3 := blk_frozen BK170.out 3) | (go_at_call 14; (with_reducible refine (irq_Phase.calls t166 t167 t168 t169 t173 _ A38.out).mono ?_); rintro e w54 ⟨rfl, hb⟩; have n0_ := Aside0.mk (blk_below (g := gb152) (o := .cells #[.bool x153000_1, .bool x153001_1, .bool x153002_1, .bool x153003_1] 23 (0, 0)) (by (with_reducible repeat (first | refine blk_drewN ?_ _ | refine blk_drew ?_ | refine blk_alloc ?_ _)); exact BK152.out) hb); have n1_ := Aside0.mk (blk_below (g := gb165) (o := .cells #[.bool t161, .bool t162, .bool t163, .bool true] 23 (0, 0)) (by (with_reducible repeat (first | refine blk_drewN ?_ _ | refine blk_drew ?_ | refine blk_alloc ?_ _)); exact BK165.out) hb); have n2_ := Aside0.mk (blk_below (g := gb170) (o := .cells #[.bool t166, .bool t167, .bool t168, .bool t169] 23 (0, 0)) (by (with_reducible repeat (first | refine blk_drewN ?_ _ | refine blk_drew ?_ | refine blk_alloc ?_ _)); exact BK170.out) hb); have n3_ := Aside0.mk (below_step (by repeat (first | (with_reducible first | exact HB.out | apply below_alloc | apply pw_below_drewN | apply below_drew1 | refine below_set ?_ GE152.out | refine below_set ?_ GE165.out | refine below_set ?_ GE170.out) | exact HB.out)) hb); clear BK152; clear BK165; clear BK170; clear HB; have BK152 := n0_; have BK165 := n1_; have BK170 := n2_; have HB := n3_; clear n0_ n1_ n2_ n3_; (try clear hb); (try clear hb2); (try clear hk); (try clear hi)))
                  go_ret
                  exact ⟨by first | rfl | (simp [errW_none, errW_some] <;> rfl) | (simp [*, errW_none, errW_some] <;> rfl), by repeat (first | (with_reducible first | exact HB.out | apply below_alloc | apply pw_below_drewN | apply below_drew1 | refine below_set ?_ GE152.out | refine below_set ?_ GE165.out | refine below_set ?_ GE170.out) | exact HB.out)⟩
              · replace c21 := Bool.eq_false_iff.mpr c21
                subst c21
                have H1 : (some false) = some r := by rw [if_neg (show ¬ (false = true) by decide)] at H; exact H
                clear H
                have H := H1
                clear H1
                obtain rfl := Option.some.inj H
                exact absurd hT_.out (by simp)
            · replace c20 := Bool.eq_false_iff.mpr c20
              subst c20
              have H1 : (some false) = some r := by rw [if_neg (show ¬ (false = true) by decide)] at H; exact H
              clear H
              have H := H1
              clear H1
              obtain rfl := Option.some.inj H
              exact absurd hT_.out (by simp)
          · exact absurd rfl c18
  · replace c4 := Bool.eq_false_iff.mpr c4
    subst c4
    have H1 : (some false) = some r := by rw [if_neg (show ¬ (false = true) by decide)] at H; exact H
    clear H
    have H := H1
    clear H1
    obtain rfl := Option.some.inj H
    exact absurd hT_.out (by simp)

end Go.Proofs.Ytmioioaapikbkaa.IAll
