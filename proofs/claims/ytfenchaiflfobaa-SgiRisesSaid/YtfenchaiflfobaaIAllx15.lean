-- Written by the program wip/gen/inj.py of this repository, out of the translation, for this claim. Not trusted: Lean checks it.
import Derived.Test.YtfenchaiflfobaaIAllx0
import Derived.Test.YtfenchaiflfobaaIAllx2
import Derived.Test.YtfenchaiflfobaaIAllx4
import Derived.Test.YtfenchaiflfobaaIAllx13
namespace Go.Proofs.Ytfenchaiflfobaa.IAll
open Go.RowKit Go.Proofs.YtfenchaiflfobaaW.PrintWords Go.Proofs.YtfenchaiflfobaaW.PrintLast Go.Proofs.YtfenchaiflfobaaW.PrintMore
attribute [local go_sem] max2_int min2_int max_two min_two max_three min_three max_four min_four   -- for this text's walks alone
set_option linter.unusedVariables false
set_option linter.unusedSimpArgs false

/-! ### crierlaw12_SgiRises: function 8 -/
def crierlaw12_SgiRises.l0 : Nat → Int → Int → Bool → List Int → Int → Int → Bool → Int → Bool → Option (Bool)
  | 0, _, _, _, _, _, _, _, _, _ => none
  | k + 1, x1, x2, x7, x9, x10, x237000, x237001, x237002, x237003 => if x10 < (x9.length : Int) then (if 0 ≤ x10 then (if (rd x9 x10) < 0 then (some false) else (if (rd x9 x10) ≥ x2 then (some false) else (if (rd x9 x10) ≥ 8 then (some false) else (if x10 > 0 then (if 0 ≤ (wrap64 (x10 - 1)) then (if (wrap64 (x10 - 1)) < (x9.length : Int) then (if (rd x9 x10) ≤ (rd x9 (wrap64 (x10 - 1))) then (some false) else (if x237001 = true then (if (rd x9 x10) = x1 then (some false) else (crierlaw12_SgiRises.l0 k x1 x2 x7 x9 (wrap64 (x10 + 1)) x237000 x237001 x237002 x237003)) else (crierlaw12_SgiRises.l0 k x1 x2 x7 x9 (wrap64 (x10 + 1)) x237000 x237001 x237002 x237003))) else (none)) else (none)) else (if x237001 = true then (if (rd x9 x10) = x1 then (some false) else (crierlaw12_SgiRises.l0 k x1 x2 x7 x9 (wrap64 (x10 + 1)) x237000 x237001 x237002 x237003)) else (crierlaw12_SgiRises.l0 k x1 x2 x7 x9 (wrap64 (x10 + 1)) x237000 x237001 x237002 x237003)))))) else (none)) else (if x237001 = true then (if x1 ≥ 0 then (if x1 < (mx 0 (mn x2 8)) then (if x7 = true then (some ((x9.length : Int) == ((mx 0 (mn x2 8)) - 1))) else (some false)) else (if x7 = true then (if (x9.length : Int) = (mx 0 (mn x2 8)) then (some true) else (some false)) else (some false))) else (if x7 = true then (if (x9.length : Int) = (mx 0 (mn x2 8)) then (some true) else (some false)) else (some false))) else (if x7 = true then ((sgi_Spread.f x237000 x237001 x237002 x237003).bind fun t247 => (some (decide ((x9.length : Int) ≤ t247)))) else (some false)))
def crierlaw12_SgiRises.f (k : Nat) (a0 : Int) (a1 : Int) (a2 : Int) : Option (Bool) := (crierlaw12_awake.f k).bind fun t231 => (if t231 = true then ((sgi_Decode.f a0).bind fun bt232 => ((crierlaw12_to.f bt232.1 bt232.2.1 bt232.2.2.1 bt232.2.2.2 a1 a2).bind fun t237 => (crierlaw12_SgiRises.l0 k a1 a2 t231 t237 0 bt232.1 bt232.2.1 bt232.2.2.1 bt232.2.2.2))) else (some false))
theorem crierlaw12_SgiRises.mono_l : ∀ k, (∀ y0 y1 y2 y3 y4 y5 y6 y7 y8, LeO (crierlaw12_SgiRises.l0 k y0 y1 y2 y3 y4 y5 y6 y7 y8) (crierlaw12_SgiRises.l0 (k + 1) y0 y1 y2 y3 y4 y5 y6 y7 y8))
  | 0 => fun _ _ _ _ _ _ _ _ _ r h => by simp [crierlaw12_SgiRises.l0] at h
  | k + 1 => by
    have ih0 := crierlaw12_SgiRises.mono_l k
    · intro y0 y1 y2 y3 y4 y5 y6 y7 y8
      unfold crierlaw12_SgiRises.l0
      repeat' first
      | (with_reducible exact ih0 _ _ _ _ _ _ _ _ _)
      | (with_reducible exact crierlaw12_awake.mono _)
      | (with_reducible exact LeO.refl _)
      | (with_reducible exact LeO.none _)
      | (with_reducible refine LeO.ite ?_ ?_)
      | (with_reducible refine LeO.bind ?_ (fun _ => ?_))
      | exact ih0 _ _ _ _ _ _ _ _ _
      | exact crierlaw12_awake.mono _
      | exact LeO.none _
      | refine LeO.ite ?_ ?_
      | refine LeO.bind ?_ (fun _ => ?_)
theorem crierlaw12_SgiRises.mono : ∀ a0 a1 a2 k, LeO (crierlaw12_SgiRises.f k a0 a1 a2) (crierlaw12_SgiRises.f (k + 1) a0 a1 a2) := by
  intro a0 a1 a2 k
  have ih0 := crierlaw12_SgiRises.mono_l k
  unfold crierlaw12_SgiRises.f
  repeat' first
      | (with_reducible exact ih0 _ _ _ _ _ _ _ _ _)
      | (with_reducible exact crierlaw12_awake.mono _)
      | (with_reducible exact LeO.refl _)
      | (with_reducible exact LeO.none _)
      | (with_reducible refine LeO.ite ?_ ?_)
      | (with_reducible refine LeO.bind ?_ (fun _ => ?_))
      | exact ih0 _ _ _ _ _ _ _ _ _
      | exact crierlaw12_awake.mono _
      | exact LeO.none _
      | refine LeO.ite ?_ ?_
      | refine LeO.bind ?_ (fun _ => ?_)
set_option maxHeartbeats 8000000 in
set_option maxRecDepth 100000 in
theorem crierlaw12_SgiRises.calls (k : Nat) (a0 : Int) (a1 : Int) (a2 : Int) (r : Bool) (w : World) (h : crierlaw12_SgiRises.f k a0 a1 a2 = some r) (hT_ : Aside0 (r = true)) :
    Calls Try.prog 8 #[.int .u64 a0, .int .i64 a1, .int .i64 a2] w fun e w' => e = .returned (.bool r) ∧ Below w.heap.size w w' := by
  have hu24 := Try.underlying24
  have HB := Aside0.mk (Below.refl w.heap.size w)
  have H : ((crierlaw12_awake.f k).bind fun t231 => (if t231 = true then ((sgi_Decode.f a0).bind fun bt232 => ((crierlaw12_to.f bt232.1 bt232.2.1 bt232.2.2.1 bt232.2.2.2 a1 a2).bind fun t237 => (crierlaw12_SgiRises.l0 k a1 a2 t231 t237 0 bt232.1 bt232.2.1 bt232.2.2.1 bt232.2.2.2))) else (some false))) = some r := h
  clear h
  replace H := Option.bind_eq_some_iff.mp H
  obtain ⟨t231, A40, H⟩ := H
  replace H : (if t231 = true then ((sgi_Decode.f a0).bind fun bt232 => ((crierlaw12_to.f bt232.1 bt232.2.1 bt232.2.2.1 bt232.2.2.2 a1 a2).bind fun t237 => (crierlaw12_SgiRises.l0 k a1 a2 t231 t237 0 bt232.1 bt232.2.1 bt232.2.2.1 bt232.2.2.2))) else (some false)) = some r := H
  have A4 := Aside0.mk A40
  clear A40
  by_cases c5 : t231 = true
  · subst c5
    have H1 : ((sgi_Decode.f a0).bind fun bt232 => ((crierlaw12_to.f bt232.1 bt232.2.1 bt232.2.2.1 bt232.2.2.2 a1 a2).bind fun t237 => (crierlaw12_SgiRises.l0 k a1 a2 true t237 0 bt232.1 bt232.2.1 bt232.2.2.1 bt232.2.2.2))) = some r := by first | (rw [if_pos rfl] at H; exact H) | (rw [if_pos trivial] at H; exact H)
    clear H
    have H := H1
    clear H1
    replace H := Option.bind_eq_some_iff.mp H
    obtain ⟨⟨t232, t233, t234, t235⟩, A60, H⟩ := H
    replace H : ((crierlaw12_to.f t232 t233 t234 t235 a1 a2).bind fun t237 => (crierlaw12_SgiRises.l0 k a1 a2 true t237 0 t232 t233 t234 t235)) = some r := H
    have A6 := Aside0.mk A60
    clear A60
    replace H := Option.bind_eq_some_iff.mp H
    obtain ⟨t237, A70, H⟩ := H
    replace H : (crierlaw12_SgiRises.l0 k a1 a2 true t237 0 t232 t233 t234 t235) = some r := H
    have A7 := Aside0.mk A70
    clear A70
    have H' := Aside0.mk H
    clear H
    go_enter Try.func8, Try.ntmps8
    go_wp2_with (first | (go_at_call 10; (with_reducible refine (crierlaw12_awake.calls k  true _ A4.out).mono ?_); rintro e w8 ⟨rfl, hb⟩; have n0_ := Aside0.mk (below_step (by repeat (first | (with_reducible first | exact HB.out | apply below_alloc | apply pw_below_drewN | apply below_drew1) | exact HB.out)) hb); clear HB; have HB := n0_; clear n0_; (try clear hb); (try clear hb2); (try clear hk); (try clear hi)) | (go_at_call 9; (with_reducible refine (sgi_Decode.calls a0 t232 t233 t234 t235 _ A6.out).mono ?_); rintro e w9 ⟨rfl, hb⟩; have n0_ := Aside0.mk (below_step (by repeat (first | (with_reducible first | exact HB.out | apply below_alloc | apply pw_below_drewN | apply below_drew1) | exact HB.out)) hb); clear HB; have HB := n0_; clear n0_; (try clear hb); (try clear hb2); (try clear hk); (try clear hi)) | ((with_reducible refine gate_dst (N := 8) rfl ?_); (try (refine gate_guard (by rfl) ?_; dsimp only)); refine box_event ?hg (N := 8) ?hd (cs := #[.int .i64 0, .bool false, .int .i64 0, .bool false]) (t := 24) ?hr ?_; (case hd => rfl); (case hg => rfl); (case hr => first | (go_simp; done) | (go_simp; rfl)); intro gb236 hg w10 hbox hb; have n0_ := Aside0.mk (below_step (by repeat (first | (with_reducible first | exact HB.out | apply below_alloc | apply pw_below_drewN | apply below_drew1) | exact HB.out)) hb); have n1_ := Aside0.mk (hbox); have n2_ := Aside0.mk ((by rw [hg]; exact (below_size (by repeat (first | (with_reducible first | exact HB.out | apply below_alloc | apply pw_below_drewN | apply below_drew1) | exact HB.out))) : w.heap.size ≤ gb236)); have n3_ := Aside0.mk ((by rw [hg]; exact (below_size (by repeat (first | (with_reducible first | exact HB.out | apply below_alloc | apply pw_below_drewN | apply below_drew1) | exact HB.out))) : w.heap.size ≤ gb236)); clear HB; have HB := n0_; have BK236 := n1_; have GW236 := n2_; have GE236 := n3_; clear n0_ n1_ n2_ n3_; clear hb hbox hg; have hcz11_0 : w10.cell? ⟨gb236, 0, none⟩ = some (.int .i64 0) := (blk_cell BK236.out 0).trans rfl; have hcz11_1 : w10.cell? ⟨gb236, 1, none⟩ = some (.bool false) := (blk_cell BK236.out 1).trans rfl; have hcz11_2 : w10.cell? ⟨gb236, 2, none⟩ = some (.int .i64 0) := (blk_cell BK236.out 2).trans rfl; have hcz11_3 : w10.cell? ⟨gb236, 3, none⟩ = some (.bool false) := (blk_cell BK236.out 3).trans rfl; have hfz11_0 := blk_frozen BK236.out 0; have hfz11_1 := blk_frozen BK236.out 1; have hfz11_2 := blk_frozen BK236.out 2; have hfz11_3 := blk_frozen BK236.out 3) | (go_at_call 15; (with_reducible refine (crierlaw12_to.calls t232 t233 t234 t235 a1 a2 t237 _ A7.out).mono ?_); rintro e w12 ⟨v238, rfl, ho0, hb⟩; have n0_ := Aside0.mk (Kd.R_lower ho0 (below_size (by repeat (first | (with_reducible first | exact HB.out | apply below_alloc | apply pw_below_drewN | apply below_drew1 | refine below_set ?_ GE236.out) | exact HB.out)))); have n1_ := Aside0.mk (blk_below (g := gb236) (o := .cells #[.int .i64 t232, .bool t233, .int .i64 t234, .bool t235] 24 (0, 0)) (by (with_reducible repeat (first | refine blk_drewN ?_ _ | refine blk_drew ?_ | refine blk_alloc ?_ _)); refine blk_put (cs := #[.int .i64 t232, .bool t233, .int .i64 t234, .bool false]) ?_ 3 _ rfl; (with_reducible repeat (first | refine blk_drewN ?_ _ | refine blk_drew ?_ | refine blk_alloc ?_ _)); refine blk_put (cs := #[.int .i64 t232, .bool t233, .int .i64 0, .bool false]) ?_ 2 _ rfl; (with_reducible repeat (first | refine blk_drewN ?_ _ | refine blk_drew ?_ | refine blk_alloc ?_ _)); refine blk_put (cs := #[.int .i64 t232, .bool false, .int .i64 0, .bool false]) ?_ 1 _ rfl; (with_reducible repeat (first | refine blk_drewN ?_ _ | refine blk_drew ?_ | refine blk_alloc ?_ _)); refine blk_put (cs := #[.int .i64 0, .bool false, .int .i64 0, .bool false]) ?_ 0 _ rfl; (with_reducible repeat (first | refine blk_drewN ?_ _ | refine blk_drew ?_ | refine blk_alloc ?_ _)); exact BK236.out) hb); have n2_ := Aside0.mk (below_step (by repeat (first | (with_reducible first | exact HB.out | apply below_alloc | apply pw_below_drewN | apply below_drew1 | refine below_set ?_ GE236.out) | exact HB.out)) hb); clear BK236; clear HB; have HO239 := n0_; have BK236 := n1_; have HB := n2_; clear n0_ n1_ n2_; (try clear hb); (try clear hb2); (try clear hk); (try clear hi); (try clear ho0)))
    repeat (go_quiet (first | (go_at_call 10; (with_reducible refine (crierlaw12_awake.calls k  true _ A4.out).mono ?_); rintro e w8 ⟨rfl, hb⟩; have n0_ := Aside0.mk (below_step (by repeat (first | (with_reducible first | exact HB.out | apply below_alloc | apply pw_below_drewN | apply below_drew1) | exact HB.out)) hb); clear HB; have HB := n0_; clear n0_; (try clear hb); (try clear hb2); (try clear hk); (try clear hi)) | (go_at_call 9; (with_reducible refine (sgi_Decode.calls a0 t232 t233 t234 t235 _ A6.out).mono ?_); rintro e w9 ⟨rfl, hb⟩; have n0_ := Aside0.mk (below_step (by repeat (first | (with_reducible first | exact HB.out | apply below_alloc | apply pw_below_drewN | apply below_drew1) | exact HB.out)) hb); clear HB; have HB := n0_; clear n0_; (try clear hb); (try clear hb2); (try clear hk); (try clear hi)) | ((with_reducible refine gate_dst (N := 8) rfl ?_); (try (refine gate_guard (by rfl) ?_; dsimp only)); refine box_event ?hg (N := 8) ?hd (cs := #[.int .i64 0, .bool false, .int .i64 0, .bool false]) (t := 24) ?hr ?_; (case hd => rfl); (case hg => rfl); (case hr => first | (go_simp; done) | (go_simp; rfl)); intro gb236 hg w10 hbox hb; have n0_ := Aside0.mk (below_step (by repeat (first | (with_reducible first | exact HB.out | apply below_alloc | apply pw_below_drewN | apply below_drew1) | exact HB.out)) hb); have n1_ := Aside0.mk (hbox); have n2_ := Aside0.mk ((by rw [hg]; exact (below_size (by repeat (first | (with_reducible first | exact HB.out | apply below_alloc | apply pw_below_drewN | apply below_drew1) | exact HB.out))) : w.heap.size ≤ gb236)); have n3_ := Aside0.mk ((by rw [hg]; exact (below_size (by repeat (first | (with_reducible first | exact HB.out | apply below_alloc | apply pw_below_drewN | apply below_drew1) | exact HB.out))) : w.heap.size ≤ gb236)); clear HB; have HB := n0_; have BK236 := n1_; have GW236 := n2_; have GE236 := n3_; clear n0_ n1_ n2_ n3_; clear hb hbox hg; have hcz11_0 : w10.cell? ⟨gb236, 0, none⟩ = some (.int .i64 0) := (blk_cell BK236.out 0).trans rfl; have hcz11_1 : w10.cell? ⟨gb236, 1, none⟩ = some (.bool false) := (blk_cell BK236.out 1).trans rfl; have hcz11_2 : w10.cell? ⟨gb236, 2, none⟩ = some (.int .i64 0) := (blk_cell BK236.out 2).trans rfl; have hcz11_3 : w10.cell? ⟨gb236, 3, none⟩ = some (.bool false) := (blk_cell BK236.out 3).trans rfl; have hfz11_0 := blk_frozen BK236.out 0; have hfz11_1 := blk_frozen BK236.out 1; have hfz11_2 := blk_frozen BK236.out 2; have hfz11_3 := blk_frozen BK236.out 3) | (go_at_call 15; (with_reducible refine (crierlaw12_to.calls t232 t233 t234 t235 a1 a2 t237 _ A7.out).mono ?_); rintro e w12 ⟨v238, rfl, ho0, hb⟩; have n0_ := Aside0.mk (Kd.R_lower ho0 (below_size (by repeat (first | (with_reducible first | exact HB.out | apply below_alloc | apply pw_below_drewN | apply below_drew1 | refine below_set ?_ GE236.out) | exact HB.out)))); have n1_ := Aside0.mk (blk_below (g := gb236) (o := .cells #[.int .i64 t232, .bool t233, .int .i64 t234, .bool t235] 24 (0, 0)) (by (with_reducible repeat (first | refine blk_drewN ?_ _ | refine blk_drew ?_ | refine blk_alloc ?_ _)); refine blk_put (cs := #[.int .i64 t232, .bool t233, .int .i64 t234, .bool false]) ?_ 3 _ rfl; (with_reducible repeat (first | refine blk_drewN ?_ _ | refine blk_drew ?_ | refine blk_alloc ?_ _)); refine blk_put (cs := #[.int .i64 t232, .bool t233, .int .i64 0, .bool false]) ?_ 2 _ rfl; (with_reducible repeat (first | refine blk_drewN ?_ _ | refine blk_drew ?_ | refine blk_alloc ?_ _)); refine blk_put (cs := #[.int .i64 t232, .bool false, .int .i64 0, .bool false]) ?_ 1 _ rfl; (with_reducible repeat (first | refine blk_drewN ?_ _ | refine blk_drew ?_ | refine blk_alloc ?_ _)); refine blk_put (cs := #[.int .i64 0, .bool false, .int .i64 0, .bool false]) ?_ 0 _ rfl; (with_reducible repeat (first | refine blk_drewN ?_ _ | refine blk_drew ?_ | refine blk_alloc ?_ _)); exact BK236.out) hb); have n2_ := Aside0.mk (below_step (by repeat (first | (with_reducible first | exact HB.out | apply below_alloc | apply pw_below_drewN | apply below_drew1 | refine below_set ?_ GE236.out) | exact HB.out)) hb); clear BK236; clear HB; have HO239 := n0_; have BK236 := n1_; have HB := n2_; clear n0_ n1_ n2_; (try clear hb); (try clear hb2); (try clear hk); (try clear hi); (try clear ho0))); try go_wp2_with (first | (go_at_call 10; (with_reducible refine (crierlaw12_awake.calls k  true _ A4.out).mono ?_); rintro e w8 ⟨rfl, hb⟩; have n0_ := Aside0.mk (below_step (by repeat (first | (with_reducible first | exact HB.out | apply below_alloc | apply pw_below_drewN | apply below_drew1) | exact HB.out)) hb); clear HB; have HB := n0_; clear n0_; (try clear hb); (try clear hb2); (try clear hk); (try clear hi)) | (go_at_call 9; (with_reducible refine (sgi_Decode.calls a0 t232 t233 t234 t235 _ A6.out).mono ?_); rintro e w9 ⟨rfl, hb⟩; have n0_ := Aside0.mk (below_step (by repeat (first | (with_reducible first | exact HB.out | apply below_alloc | apply pw_below_drewN | apply below_drew1) | exact HB.out)) hb); clear HB; have HB := n0_; clear n0_; (try clear hb); (try clear hb2); (try clear hk); (try clear hi)) | ((with_reducible refine gate_dst (N := 8) rfl ?_); (try (refine gate_guard (by rfl) ?_; dsimp only)); refine box_event ?hg (N := 8) ?hd (cs := #[.int .i64 0, .bool false, .int .i64 0, .bool false]) (t := 24) ?hr ?_; (case hd => rfl); (case hg => rfl); (case hr => first | (go_simp; done) | (go_simp; rfl)); intro gb236 hg w10 hbox hb; have n0_ := Aside0.mk (below_step (by repeat (first | (with_reducible first | exact HB.out | apply below_alloc | apply pw_below_drewN | apply below_drew1) | exact HB.out)) hb); have n1_ := Aside0.mk (hbox); have n2_ := Aside0.mk ((by rw [hg]; exact (below_size (by repeat (first | (with_reducible first | exact HB.out | apply below_alloc | apply pw_below_drewN | apply below_drew1) | exact HB.out))) : w.heap.size ≤ gb236)); have n3_ := Aside0.mk ((by rw [hg]; exact (below_size (by repeat (first | (with_reducible first | exact HB.out | apply below_alloc | apply pw_below_drewN | apply below_drew1) | exact HB.out))) : w.heap.size ≤ gb236)); clear HB; have HB := n0_; have BK236 := n1_; have GW236 := n2_; have GE236 := n3_; clear n0_ n1_ n2_ n3_; clear hb hbox hg; have hcz11_0 : w10.cell? ⟨gb236, 0, none⟩ = some (.int .i64 0) := (blk_cell BK236.out 0).trans rfl; have hcz11_1 : w10.cell? ⟨gb236, 1, none⟩ = some (.bool false) := (blk_cell BK236.out 1).trans rfl; have hcz11_2 : w10.cell? ⟨gb236, 2, none⟩ = some (.int .i64 0) := (blk_cell BK236.out 2).trans rfl; have hcz11_3 : w10.cell? ⟨gb236, 3, none⟩ = some (.bool false) := (blk_cell BK236.out 3).trans rfl; have hfz11_0 := blk_frozen BK236.out 0; have hfz11_1 := blk_frozen BK236.out 1; have hfz11_2 := blk_frozen BK236.out 2; have hfz11_3 := blk_frozen BK236.out 3) | (go_at_call 15; (with_reducible refine (crierlaw12_to.calls t232 t233 t234 t235 a1 a2 t237 _ A7.out).mono ?_); rintro e w12 ⟨v238, rfl, ho0, hb⟩; have n0_ := Aside0.mk (Kd.R_lower ho0 (below_size (by repeat (first | (with_reducible first | exact HB.out | apply below_alloc | apply pw_below_drewN | apply below_drew1 | refine below_set ?_ GE236.out) | exact HB.out)))); have n1_ := Aside0.mk (blk_below (g := gb236) (o := .cells #[.int .i64 t232, .bool t233, .int .i64 t234, .bool t235] 24 (0, 0)) (by (with_reducible repeat (first | refine blk_drewN ?_ _ | refine blk_drew ?_ | refine blk_alloc ?_ _)); refine blk_put (cs := #[.int .i64 t232, .bool t233, .int .i64 t234, .bool false]) ?_ 3 _ rfl; (with_reducible repeat (first | refine blk_drewN ?_ _ | refine blk_drew ?_ | refine blk_alloc ?_ _)); refine blk_put (cs := #[.int .i64 t232, .bool t233, .int .i64 0, .bool false]) ?_ 2 _ rfl; (with_reducible repeat (first | refine blk_drewN ?_ _ | refine blk_drew ?_ | refine blk_alloc ?_ _)); refine blk_put (cs := #[.int .i64 t232, .bool false, .int .i64 0, .bool false]) ?_ 1 _ rfl; (with_reducible repeat (first | refine blk_drewN ?_ _ | refine blk_drew ?_ | refine blk_alloc ?_ _)); refine blk_put (cs := #[.int .i64 0, .bool false, .int .i64 0, .bool false]) ?_ 0 _ rfl; (with_reducible repeat (first | refine blk_drewN ?_ _ | refine blk_drew ?_ | refine blk_alloc ?_ _)); exact BK236.out) hb); have n2_ := Aside0.mk (below_step (by repeat (first | (with_reducible first | exact HB.out | apply below_alloc | apply pw_below_drewN | apply below_drew1 | refine below_set ?_ GE236.out) | exact HB.out)) hb); clear BK236; clear HB; have HO239 := n0_; have BK236 := n1_; have HB := n2_; clear n0_ n1_ n2_; (try clear hb); (try clear hb2); (try clear hk); (try clear hi); (try clear ho0))))
    go_loopg [10] k (fun kq v10 w' => ∃ (x10_1 : Int), v10 = .int .i64 x10_1 ∧ Aside0 (crierlaw12_SgiRises.l0 kq a1 a2 true t237 x10_1 t232 t233 t234 t235 = some r) ∧ Aside0 (kq ≤ k) ∧ Aside0 (Kd.R (Kd.int .i64) 3 w' w.heap.size (fun _ => True) v238 t237) ∧ Aside0 (w'.heap[gb236]? = some (.cells #[.int .i64 t232, .bool t233, .int .i64 t234, .bool t235] 24 (0, 0))) ∧ Aside0 (Below w.heap.size w w'))
    case atStart => exact ⟨(0), (by first | rfl | (simp; done) | (simp [*]; done)), H', ⟨Nat.le_refl _⟩, ⟨by (with_reducible repeat (first | apply Kd.R_alloc | apply Kd.R_drewN | apply Kd.R_drew)); exact HO239.out⟩, ⟨by (with_reducible repeat (first | refine blk_drewN ?_ _ | refine blk_drew ?_ | refine blk_alloc ?_ _)); exact BK236.out⟩, ⟨by repeat (first | (with_reducible first | exact HB.out | apply below_alloc | apply pw_below_drewN | apply below_drew1 | refine below_set ?_ GE236.out) | exact HB.out)⟩⟩
    case round =>
      clear H'
      try clear p2
      try clear c5
      try clear c8
      try clear hcz11_0
      try clear hcz11_1
      try clear hcz11_2
      try clear hcz11_3
      try clear hfz11_0
      try clear hfz11_1
      try clear hfz11_2
      try clear hfz11_3
      obtain ⟨x10_1, rfl, HA, HK1, HO_9, BK236, HB⟩ := hrel
      cases gk with
      | zero => exact absurd HA.out (by simp [crierlaw12_SgiRises.l0])
      | succ k1 =>
        have H := HA.out
        clear HA
        simp only [crierlaw12_SgiRises.l0] at H
        by_cases c13 : x10_1 < (t237.length : Int)
        · rw [if_pos c13] at H
          have c13b0 : decide (x10_1 < (t237.length : Int)) = true := decide_eq_true c13
          clear c13
          by_cases c14 : 0 ≤ x10_1
          · rw [if_pos c14] at H
            have c14b0 : decide (0 ≤ x10_1) = true := decide_eq_true c14
            clear c14
            by_cases c15 : (rd t237 x10_1) < 0
            · rw [if_pos c15] at H
              have c15b0 : decide ((rd t237 x10_1) < 0) = true := decide_eq_true c15
              clear c15
              obtain rfl := Option.some.inj H
              obtain ⟨Ao16, co16, eo16⟩ := Kd.R_slice HO_9.out
              subst eo16
              have p240 : 0 ≤ (x10_1 : Int) := of_decide_eq_true (by first | (with_reducible assumption) | assumption)
              have q240 : x10_1 < (t237.length : Int) := of_decide_eq_true (by first | (with_reducible assumption) | assumption)
              obtain ⟨ad240, e240, hx240_0⟩ := Kd.at_int (Kd.R_reads' HO_9.out).2.2 x10_1 p240 q240
              cases e240
              replace p240 := eq_true p240
              replace q240 := eq_true q240
              go_wp2
              repeat (go_quiet (fail); try go_wp2)
              go_ret
              exact ⟨by first | rfl | (simp [errW_none, errW_some] <;> rfl) | (simp [*, errW_none, errW_some] <;> rfl), by repeat (first | (with_reducible first | exact HB.out | apply below_alloc | apply pw_below_drewN | apply below_drew1 | refine below_set ?_ GE236.out) | exact HB.out)⟩
            · rw [if_neg c15] at H
              have c15b0 : decide ((rd t237 x10_1) < 0) = false := decide_eq_false c15
              clear c15
              by_cases c17 : (rd t237 x10_1) ≥ a2
              · rw [if_pos c17] at H
                have c17b0 : decide (a2 ≤ (rd t237 x10_1)) = true := decide_eq_true c17
                clear c17
                obtain rfl := Option.some.inj H
                obtain ⟨Ao18, co18, eo18⟩ := Kd.R_slice HO_9.out
                subst eo18
                have p240 : 0 ≤ (x10_1 : Int) := of_decide_eq_true (by first | (with_reducible assumption) | assumption)
                have q240 : x10_1 < (t237.length : Int) := of_decide_eq_true (by first | (with_reducible assumption) | assumption)
                obtain ⟨ad240, e240, hx240_0⟩ := Kd.at_int (Kd.R_reads' HO_9.out).2.2 x10_1 p240 q240
                cases e240
                replace p240 := eq_true p240
                replace q240 := eq_true q240
                have p241 : 0 ≤ (x10_1 : Int) := of_decide_eq_true (by first | (with_reducible assumption) | assumption)
                have q241 : x10_1 < (t237.length : Int) := of_decide_eq_true (by first | (with_reducible assumption) | assumption)
                obtain ⟨ad241, e241, hx241_0⟩ := Kd.at_int (Kd.R_reads' HO_9.out).2.2 x10_1 p241 q241
                obtain rfl : ad240 = ad241 := (by injection e241)
                replace p241 := eq_true p241
                replace q241 := eq_true q241
                go_wp2
                repeat (go_quiet (fail); try go_wp2)
                go_ret
                exact ⟨by first | rfl | (simp [errW_none, errW_some] <;> rfl) | (simp [*, errW_none, errW_some] <;> rfl), by repeat (first | (with_reducible first | exact HB.out | apply below_alloc | apply pw_below_drewN | apply below_drew1 | refine below_set ?_ GE236.out) | exact HB.out)⟩
              · rw [if_neg c17] at H
                have c17b0 : decide (a2 ≤ (rd t237 x10_1)) = false := decide_eq_false c17
                clear c17
                by_cases c19 : (rd t237 x10_1) ≥ 8
                · rw [if_pos c19] at H
                  have c19b0 : decide (8 ≤ (rd t237 x10_1)) = true := decide_eq_true c19
                  clear c19
                  obtain rfl := Option.some.inj H
                  obtain ⟨Ao20, co20, eo20⟩ := Kd.R_slice HO_9.out
                  subst eo20
                  have p240 : 0 ≤ (x10_1 : Int) := of_decide_eq_true (by first | (with_reducible assumption) | assumption)
                  have q240 : x10_1 < (t237.length : Int) := of_decide_eq_true (by first | (with_reducible assumption) | assumption)
                  obtain ⟨ad240, e240, hx240_0⟩ := Kd.at_int (Kd.R_reads' HO_9.out).2.2 x10_1 p240 q240
                  cases e240
                  replace p240 := eq_true p240
                  replace q240 := eq_true q240
                  have p241 : 0 ≤ (x10_1 : Int) := of_decide_eq_true (by first | (with_reducible assumption) | assumption)
                  have q241 : x10_1 < (t237.length : Int) := of_decide_eq_true (by first | (with_reducible assumption) | assumption)
                  obtain ⟨ad241, e241, hx241_0⟩ := Kd.at_int (Kd.R_reads' HO_9.out).2.2 x10_1 p241 q241
                  obtain rfl : ad240 = ad241 := (by injection e241)
                  replace p241 := eq_true p241
                  replace q241 := eq_true q241
                  have p242 : 0 ≤ (x10_1 : Int) := of_decide_eq_true (by first | (with_reducible assumption) | assumption)
                  have q242 : x10_1 < (t237.length : Int) := of_decide_eq_true (by first | (with_reducible assumption) | assumption)
                  obtain ⟨ad242, e242, hx242_0⟩ := Kd.at_int (Kd.R_reads' HO_9.out).2.2 x10_1 p242 q242
                  obtain rfl : ad240 = ad242 := (by injection e242)
                  replace p242 := eq_true p242
                  replace q242 := eq_true q242
                  go_wp2
                  repeat (go_quiet (fail); try go_wp2)
                  go_ret
                  exact ⟨by first | rfl | (simp [errW_none, errW_some] <;> rfl) | (simp [*, errW_none, errW_some] <;> rfl), by repeat (first | (with_reducible first | exact HB.out | apply below_alloc | apply pw_below_drewN | apply below_drew1 | refine below_set ?_ GE236.out) | exact HB.out)⟩
                · rw [if_neg c19] at H
                  have c19b0 : decide (8 ≤ (rd t237 x10_1)) = false := decide_eq_false c19
                  clear c19
                  by_cases c21 : x10_1 > 0
                  · rw [if_pos c21] at H
                    have c21b0 : decide (0 < x10_1) = true := decide_eq_true c21
                    clear c21
                    obtain ⟨ji22, hji22⟩ : ∃ j_ : Int, (wrap64 (x10_1 - 1)) = j_ := ⟨_, rfl⟩
                    replace H : (if 0 ≤ (ji22) then (if (ji22) < (t237.length : Int) then (if (rd t237 x10_1) ≤ (rd t237 (ji22)) then (some false) else (if t233 = true then (if (rd t237 x10_1) = a1 then (some false) else (crierlaw12_SgiRises.l0 k1 a1 a2 true t237 (wrap64 (x10_1 + 1)) t232 t233 t234 t235)) else (crierlaw12_SgiRises.l0 k1 a1 a2 true t237 (wrap64 (x10_1 + 1)) t232 t233 t234 t235))) else (none)) else (none)) = some r := by first | (rw [hji22] at H; exact H) | (simp only [hji22] at H ⊢; exact H)
                    have hji22w : (IntKind.i64.wrap (x10_1 - 1)) = ji22 := (i64_w _).trans hji22
                    by_cases c23 : 0 ≤ (ji22)
                    · rw [if_pos c23] at H
                      have c23b0 : decide (0 ≤ (ji22)) = true := decide_eq_true c23
                      clear c23
                      by_cases c24 : (ji22) < (t237.length : Int)
                      · rw [if_pos c24] at H
                        have c24b0 : decide ((ji22) < (t237.length : Int)) = true := decide_eq_true c24
                        clear c24
                        by_cases c25 : (rd t237 x10_1) ≤ (rd t237 (ji22))
                        · rw [if_pos c25] at H
                          have c25b0 : decide ((rd t237 x10_1) ≤ (rd t237 (ji22))) = true := decide_eq_true c25
                          clear c25
                          obtain rfl := Option.some.inj H
                          exact absurd hT_.out (by simp)
                        · rw [if_neg c25] at H
                          have c25b0 : decide ((rd t237 x10_1) ≤ (rd t237 (ji22))) = false := decide_eq_false c25
                          clear c25
                          by_cases c27 : t233 = true
                          · subst c27
                            have H1 : (if (rd t237 x10_1) = a1 then (some false) else (crierlaw12_SgiRises.l0 k1 a1 a2 true t237 (wrap64 (x10_1 + 1)) t232 true t234 t235)) = some r := by first | (rw [if_pos rfl] at H; exact H) | (rw [if_pos trivial] at H; exact H)
                            clear H
                            have H := H1
                            clear H1
                            by_cases c28 : (rd t237 x10_1) = a1
                            · rw [if_pos c28] at H
                              have c28b0 : ((rd t237 x10_1) == a1) = true := beq_iff_eq.mpr c28
                              have c28b1 : ((rd t237 x10_1) != a1) = false := bne_eq_false_iff_eq.mpr c28
                              clear c28
                              obtain rfl := Option.some.inj H
                              exact absurd hT_.out (by simp)
                            · rw [if_neg c28] at H
                              have c28b0 : ((rd t237 x10_1) == a1) = false := beq_eq_false_iff_ne.mpr c28
                              have c28b1 : ((rd t237 x10_1) != a1) = true := bne_iff_ne.mpr c28
                              have H' := Aside0.mk H
                              clear H
                              obtain ⟨Ao31, co31, eo31⟩ := Kd.R_slice HO_9.out
                              subst eo31
                              have p240 : 0 ≤ (x10_1 : Int) := of_decide_eq_true (by first | (with_reducible assumption) | assumption)
                              have q240 : x10_1 < (t237.length : Int) := of_decide_eq_true (by first | (with_reducible assumption) | assumption)
                              obtain ⟨ad240, e240, hx240_0⟩ := Kd.at_int (Kd.R_reads' HO_9.out).2.2 x10_1 p240 q240
                              cases e240
                              replace p240 := eq_true p240
                              replace q240 := eq_true q240
                              have p241 : 0 ≤ (x10_1 : Int) := of_decide_eq_true (by first | (with_reducible assumption) | assumption)
                              have q241 : x10_1 < (t237.length : Int) := of_decide_eq_true (by first | (with_reducible assumption) | assumption)
                              obtain ⟨ad241, e241, hx241_0⟩ := Kd.at_int (Kd.R_reads' HO_9.out).2.2 x10_1 p241 q241
                              obtain rfl : ad240 = ad241 := (by injection e241)
                              replace p241 := eq_true p241
                              replace q241 := eq_true q241
                              have p242 : 0 ≤ (x10_1 : Int) := of_decide_eq_true (by first | (with_reducible assumption) | assumption)
                              have q242 : x10_1 < (t237.length : Int) := of_decide_eq_true (by first | (with_reducible assumption) | assumption)
                              obtain ⟨ad242, e242, hx242_0⟩ := Kd.at_int (Kd.R_reads' HO_9.out).2.2 x10_1 p242 q242
                              obtain rfl : ad240 = ad242 := (by injection e242)
                              replace p242 := eq_true p242
                              replace q242 := eq_true q242
                              have p243 : 0 ≤ (x10_1 : Int) := of_decide_eq_true (by first | (with_reducible assumption) | assumption)
                              have q243 : x10_1 < (t237.length : Int) := of_decide_eq_true (by first | (with_reducible assumption) | assumption)
                              obtain ⟨ad243, e243, hx243_0⟩ := Kd.at_int (Kd.R_reads' HO_9.out).2.2 x10_1 p243 q243
                              obtain rfl : ad240 = ad243 := (by injection e243)
                              replace p243 := eq_true p243
                              replace q243 := eq_true q243
                              have p244 : 0 ≤ ((ji22) : Int) := of_decide_eq_true (by first | (with_reducible assumption) | assumption)
                              have q244 : (ji22) < (t237.length : Int) := of_decide_eq_true (by first | (with_reducible assumption) | assumption)
                              obtain ⟨ad244, e244, hx244_0⟩ := Kd.at_int (Kd.R_reads' HO_9.out).2.2 (ji22) p244 q244
                              obtain rfl : ad240 = ad244 := (by injection e244)
                              replace p244 := eq_true p244
                              replace q244 := eq_true q244
                              have hcz32_0 : wr.cell? ⟨gb236, 0, none⟩ = some (.int .i64 t232) := (blk_cell BK236.out 0).trans rfl
                              have hcz32_1 : wr.cell? ⟨gb236, 1, none⟩ = some (.bool true) := (blk_cell BK236.out 1).trans rfl
                              have hcz32_2 : wr.cell? ⟨gb236, 2, none⟩ = some (.int .i64 t234) := (blk_cell BK236.out 2).trans rfl
                              have hcz32_3 : wr.cell? ⟨gb236, 3, none⟩ = some (.bool t235) := (blk_cell BK236.out 3).trans rfl
                              have hfz32_0 := blk_frozen BK236.out 0
                              have hfz32_1 := blk_frozen BK236.out 1
                              have hfz32_2 := blk_frozen BK236.out 2
                              have hfz32_3 := blk_frozen BK236.out 3
                              have p245 : 0 ≤ (x10_1 : Int) := of_decide_eq_true (by first | (with_reducible assumption) | assumption)
                              have q245 : x10_1 < (t237.length : Int) := of_decide_eq_true (by first | (with_reducible assumption) | assumption)
                              obtain ⟨ad245, e245, hx245_0⟩ := Kd.at_int (Kd.R_reads' HO_9.out).2.2 x10_1 p245 q245
                              obtain rfl : ad240 = ad245 := (by injection e245)
                              replace p245 := eq_true p245
                              replace q245 := eq_true q245
                              go_wp2
                              repeat (go_quiet (fail); try go_wp2)
                              go_roundg k1
                              case measure => have := HK1.out; omega
                              case rel => exact ⟨(wrap64 (x10_1 + 1)), (by first | rfl | (simp; done) | (simp [*]; done)), H', ⟨by have := HK1.out; omega⟩, ⟨by (with_reducible repeat (first | apply Kd.R_alloc | apply Kd.R_drewN | apply Kd.R_drew)); exact HO_9.out⟩, ⟨by (with_reducible repeat (first | refine blk_drewN ?_ _ | refine blk_drew ?_ | refine blk_alloc ?_ _)); exact BK236.out⟩, ⟨by repeat (first | (with_reducible first | exact HB.out | apply below_alloc | apply pw_below_drewN | apply below_drew1 | refine below_set ?_ GE236.out) | exact HB.out)⟩⟩
                          · replace c27 := Bool.eq_false_iff.mpr c27
                            subst c27
                            have H1 : (crierlaw12_SgiRises.l0 k1 a1 a2 true t237 (wrap64 (x10_1 + 1)) t232 false t234 t235) = some r := by rw [if_neg (show ¬ (false = true) by decide)] at H; exact H
                            clear H
                            have H := H1
                            clear H1
                            have H' := Aside0.mk H
                            clear H
                            obtain ⟨Ao33, co33, eo33⟩ := Kd.R_slice HO_9.out
                            subst eo33
                            have p240 : 0 ≤ (x10_1 : Int) := of_decide_eq_true (by first | (with_reducible assumption) | assumption)
                            have q240 : x10_1 < (t237.length : Int) := of_decide_eq_true (by first | (with_reducible assumption) | assumption)
                            obtain ⟨ad240, e240, hx240_0⟩ := Kd.at_int (Kd.R_reads' HO_9.out).2.2 x10_1 p240 q240
                            cases e240
                            replace p240 := eq_true p240
                            replace q240 := eq_true q240
                            have p241 : 0 ≤ (x10_1 : Int) := of_decide_eq_true (by first | (with_reducible assumption) | assumption)
                            have q241 : x10_1 < (t237.length : Int) := of_decide_eq_true (by first | (with_reducible assumption) | assumption)
                            obtain ⟨ad241, e241, hx241_0⟩ := Kd.at_int (Kd.R_reads' HO_9.out).2.2 x10_1 p241 q241
                            obtain rfl : ad240 = ad241 := (by injection e241)
                            replace p241 := eq_true p241
                            replace q241 := eq_true q241
                            have p242 : 0 ≤ (x10_1 : Int) := of_decide_eq_true (by first | (with_reducible assumption) | assumption)
                            have q242 : x10_1 < (t237.length : Int) := of_decide_eq_true (by first | (with_reducible assumption) | assumption)
                            obtain ⟨ad242, e242, hx242_0⟩ := Kd.at_int (Kd.R_reads' HO_9.out).2.2 x10_1 p242 q242
                            obtain rfl : ad240 = ad242 := (by injection e242)
                            replace p242 := eq_true p242
                            replace q242 := eq_true q242
                            have p243 : 0 ≤ (x10_1 : Int) := of_decide_eq_true (by first | (with_reducible assumption) | assumption)
                            have q243 : x10_1 < (t237.length : Int) := of_decide_eq_true (by first | (with_reducible assumption) | assumption)
                            obtain ⟨ad243, e243, hx243_0⟩ := Kd.at_int (Kd.R_reads' HO_9.out).2.2 x10_1 p243 q243
                            obtain rfl : ad240 = ad243 := (by injection e243)
                            replace p243 := eq_true p243
                            replace q243 := eq_true q243
                            have p244 : 0 ≤ ((ji22) : Int) := of_decide_eq_true (by first | (with_reducible assumption) | assumption)
                            have q244 : (ji22) < (t237.length : Int) := of_decide_eq_true (by first | (with_reducible assumption) | assumption)
                            obtain ⟨ad244, e244, hx244_0⟩ := Kd.at_int (Kd.R_reads' HO_9.out).2.2 (ji22) p244 q244
                            obtain rfl : ad240 = ad244 := (by injection e244)
                            replace p244 := eq_true p244
                            replace q244 := eq_true q244
                            have hcz34_0 : wr.cell? ⟨gb236, 0, none⟩ = some (.int .i64 t232) := (blk_cell BK236.out 0).trans rfl
                            have hcz34_1 : wr.cell? ⟨gb236, 1, none⟩ = some (.bool false) := (blk_cell BK236.out 1).trans rfl
                            have hcz34_2 : wr.cell? ⟨gb236, 2, none⟩ = some (.int .i64 t234) := (blk_cell BK236.out 2).trans rfl
                            have hcz34_3 : wr.cell? ⟨gb236, 3, none⟩ = some (.bool t235) := (blk_cell BK236.out 3).trans rfl
                            have hfz34_0 := blk_frozen BK236.out 0
                            have hfz34_1 := blk_frozen BK236.out 1
                            have hfz34_2 := blk_frozen BK236.out 2
                            have hfz34_3 := blk_frozen BK236.out 3
                            go_wp2
                            repeat (go_quiet (fail); try go_wp2)
                            go_roundg k1
                            case measure => have := HK1.out; omega
                            case rel => exact ⟨(wrap64 (x10_1 + 1)), (by first | rfl | (simp; done) | (simp [*]; done)), H', ⟨by have := HK1.out; omega⟩, ⟨by (with_reducible repeat (first | apply Kd.R_alloc | apply Kd.R_drewN | apply Kd.R_drew)); exact HO_9.out⟩, ⟨by (with_reducible repeat (first | refine blk_drewN ?_ _ | refine blk_drew ?_ | refine blk_alloc ?_ _)); exact BK236.out⟩, ⟨by repeat (first | (with_reducible first | exact HB.out | apply below_alloc | apply pw_below_drewN | apply below_drew1 | refine below_set ?_ GE236.out) | exact HB.out)⟩⟩
                      · rw [if_neg c24] at H
                        exact absurd H (by simp)
                    · rw [if_neg c23] at H
                      exact absurd H (by simp)
                  · rw [if_neg c21] at H
                    have c21b0 : decide (0 < x10_1) = false := decide_eq_false c21
                    clear c21
                    by_cases c35 : t233 = true
                    · subst c35
                      have H1 : (if (rd t237 x10_1) = a1 then (some false) else (crierlaw12_SgiRises.l0 k1 a1 a2 true t237 (wrap64 (x10_1 + 1)) t232 true t234 t235)) = some r := by first | (rw [if_pos rfl] at H; exact H) | (rw [if_pos trivial] at H; exact H)
                      clear H
                      have H := H1
                      clear H1
                      by_cases c36 : (rd t237 x10_1) = a1
                      · rw [if_pos c36] at H
                        have c36b0 : ((rd t237 x10_1) == a1) = true := beq_iff_eq.mpr c36
                        have c36b1 : ((rd t237 x10_1) != a1) = false := bne_eq_false_iff_eq.mpr c36
                        clear c36
                        obtain rfl := Option.some.inj H
                        exact absurd hT_.out (by simp)
                      · rw [if_neg c36] at H
                        have c36b0 : ((rd t237 x10_1) == a1) = false := beq_eq_false_iff_ne.mpr c36
                        have c36b1 : ((rd t237 x10_1) != a1) = true := bne_iff_ne.mpr c36
                        have H' := Aside0.mk H
                        clear H
                        obtain ⟨Ao39, co39, eo39⟩ := Kd.R_slice HO_9.out
                        subst eo39
                        have p240 : 0 ≤ (x10_1 : Int) := of_decide_eq_true (by first | (with_reducible assumption) | assumption)
                        have q240 : x10_1 < (t237.length : Int) := of_decide_eq_true (by first | (with_reducible assumption) | assumption)
                        obtain ⟨ad240, e240, hx240_0⟩ := Kd.at_int (Kd.R_reads' HO_9.out).2.2 x10_1 p240 q240
                        cases e240
                        replace p240 := eq_true p240
                        replace q240 := eq_true q240
                        have p241 : 0 ≤ (x10_1 : Int) := of_decide_eq_true (by first | (with_reducible assumption) | assumption)
                        have q241 : x10_1 < (t237.length : Int) := of_decide_eq_true (by first | (with_reducible assumption) | assumption)
                        obtain ⟨ad241, e241, hx241_0⟩ := Kd.at_int (Kd.R_reads' HO_9.out).2.2 x10_1 p241 q241
                        obtain rfl : ad240 = ad241 := (by injection e241)
                        replace p241 := eq_true p241
                        replace q241 := eq_true q241
                        have p242 : 0 ≤ (x10_1 : Int) := of_decide_eq_true (by first | (with_reducible assumption) | assumption)
                        have q242 : x10_1 < (t237.length : Int) := of_decide_eq_true (by first | (with_reducible assumption) | assumption)
                        obtain ⟨ad242, e242, hx242_0⟩ := Kd.at_int (Kd.R_reads' HO_9.out).2.2 x10_1 p242 q242
                        obtain rfl : ad240 = ad242 := (by injection e242)
                        replace p242 := eq_true p242
                        replace q242 := eq_true q242
                        have hcz40_0 : wr.cell? ⟨gb236, 0, none⟩ = some (.int .i64 t232) := (blk_cell BK236.out 0).trans rfl
                        have hcz40_1 : wr.cell? ⟨gb236, 1, none⟩ = some (.bool true) := (blk_cell BK236.out 1).trans rfl
                        have hcz40_2 : wr.cell? ⟨gb236, 2, none⟩ = some (.int .i64 t234) := (blk_cell BK236.out 2).trans rfl
                        have hcz40_3 : wr.cell? ⟨gb236, 3, none⟩ = some (.bool t235) := (blk_cell BK236.out 3).trans rfl
                        have hfz40_0 := blk_frozen BK236.out 0
                        have hfz40_1 := blk_frozen BK236.out 1
                        have hfz40_2 := blk_frozen BK236.out 2
                        have hfz40_3 := blk_frozen BK236.out 3
                        have p246 : 0 ≤ (x10_1 : Int) := of_decide_eq_true (by first | (with_reducible assumption) | assumption)
                        have q246 : x10_1 < (t237.length : Int) := of_decide_eq_true (by first | (with_reducible assumption) | assumption)
                        obtain ⟨ad246, e246, hx246_0⟩ := Kd.at_int (Kd.R_reads' HO_9.out).2.2 x10_1 p246 q246
                        obtain rfl : ad240 = ad246 := (by injection e246)
                        replace p246 := eq_true p246
                        replace q246 := eq_true q246
                        go_wp2
                        repeat (go_quiet (fail); try go_wp2)
                        go_roundg k1
                        case measure => have := HK1.out; omega
                        case rel => exact ⟨(wrap64 (x10_1 + 1)), (by first | rfl | (simp; done) | (simp [*]; done)), H', ⟨by have := HK1.out; omega⟩, ⟨by (with_reducible repeat (first | apply Kd.R_alloc | apply Kd.R_drewN | apply Kd.R_drew)); exact HO_9.out⟩, ⟨by (with_reducible repeat (first | refine blk_drewN ?_ _ | refine blk_drew ?_ | refine blk_alloc ?_ _)); exact BK236.out⟩, ⟨by repeat (first | (with_reducible first | exact HB.out | apply below_alloc | apply pw_below_drewN | apply below_drew1 | refine below_set ?_ GE236.out) | exact HB.out)⟩⟩
                    · replace c35 := Bool.eq_false_iff.mpr c35
                      subst c35
                      have H1 : (crierlaw12_SgiRises.l0 k1 a1 a2 true t237 (wrap64 (x10_1 + 1)) t232 false t234 t235) = some r := by rw [if_neg (show ¬ (false = true) by decide)] at H; exact H
                      clear H
                      have H := H1
                      clear H1
                      have H' := Aside0.mk H
                      clear H
                      obtain ⟨Ao41, co41, eo41⟩ := Kd.R_slice HO_9.out
                      subst eo41
                      have p240 : 0 ≤ (x10_1 : Int) := of_decide_eq_true (by first | (with_reducible assumption) | assumption)
                      have q240 : x10_1 < (t237.length : Int) := of_decide_eq_true (by first | (with_reducible assumption) | assumption)
                      obtain ⟨ad240, e240, hx240_0⟩ := Kd.at_int (Kd.R_reads' HO_9.out).2.2 x10_1 p240 q240
                      cases e240
                      replace p240 := eq_true p240
                      replace q240 := eq_true q240
                      have p241 : 0 ≤ (x10_1 : Int) := of_decide_eq_true (by first | (with_reducible assumption) | assumption)
                      have q241 : x10_1 < (t237.length : Int) := of_decide_eq_true (by first | (with_reducible assumption) | assumption)
                      obtain ⟨ad241, e241, hx241_0⟩ := Kd.at_int (Kd.R_reads' HO_9.out).2.2 x10_1 p241 q241
                      obtain rfl : ad240 = ad241 := (by injection e241)
                      replace p241 := eq_true p241
                      replace q241 := eq_true q241
                      have p242 : 0 ≤ (x10_1 : Int) := of_decide_eq_true (by first | (with_reducible assumption) | assumption)
                      have q242 : x10_1 < (t237.length : Int) := of_decide_eq_true (by first | (with_reducible assumption) | assumption)
                      obtain ⟨ad242, e242, hx242_0⟩ := Kd.at_int (Kd.R_reads' HO_9.out).2.2 x10_1 p242 q242
                      obtain rfl : ad240 = ad242 := (by injection e242)
                      replace p242 := eq_true p242
                      replace q242 := eq_true q242
                      have hcz42_0 : wr.cell? ⟨gb236, 0, none⟩ = some (.int .i64 t232) := (blk_cell BK236.out 0).trans rfl
                      have hcz42_1 : wr.cell? ⟨gb236, 1, none⟩ = some (.bool false) := (blk_cell BK236.out 1).trans rfl
                      have hcz42_2 : wr.cell? ⟨gb236, 2, none⟩ = some (.int .i64 t234) := (blk_cell BK236.out 2).trans rfl
                      have hcz42_3 : wr.cell? ⟨gb236, 3, none⟩ = some (.bool t235) := (blk_cell BK236.out 3).trans rfl
                      have hfz42_0 := blk_frozen BK236.out 0
                      have hfz42_1 := blk_frozen BK236.out 1
                      have hfz42_2 := blk_frozen BK236.out 2
                      have hfz42_3 := blk_frozen BK236.out 3
                      go_wp2
                      repeat (go_quiet (fail); try go_wp2)
                      go_roundg k1
                      case measure => have := HK1.out; omega
                      case rel => exact ⟨(wrap64 (x10_1 + 1)), (by first | rfl | (simp; done) | (simp [*]; done)), H', ⟨by have := HK1.out; omega⟩, ⟨by (with_reducible repeat (first | apply Kd.R_alloc | apply Kd.R_drewN | apply Kd.R_drew)); exact HO_9.out⟩, ⟨by (with_reducible repeat (first | refine blk_drewN ?_ _ | refine blk_drew ?_ | refine blk_alloc ?_ _)); exact BK236.out⟩, ⟨by repeat (first | (with_reducible first | exact HB.out | apply below_alloc | apply pw_below_drewN | apply below_drew1 | refine below_set ?_ GE236.out) | exact HB.out)⟩⟩
          · rw [if_neg c14] at H
            exact absurd H (by simp)
        · rw [if_neg c13] at H
          have c13b0 : decide (x10_1 < (t237.length : Int)) = false := decide_eq_false c13
          clear c13
          obtain ⟨ji43, hji43⟩ : ∃ j_ : Int, (mn a2 8) = j_ := ⟨_, rfl⟩
          replace H : (if t233 = true then (if a1 ≥ 0 then (if a1 < (mx 0 (ji43)) then (if true = true then (some ((t237.length : Int) == ((mx 0 (ji43)) - 1))) else (some false)) else (if true = true then (if (t237.length : Int) = (mx 0 (ji43)) then (some true) else (some false)) else (some false))) else (if true = true then (if (t237.length : Int) = (mx 0 (ji43)) then (some true) else (some false)) else (some false))) else (if true = true then ((sgi_Spread.f t232 t233 t234 t235).bind fun t247 => (some (decide ((t237.length : Int) ≤ t247)))) else (some false))) = some r := by first | (rw [hji43] at H; exact H) | (simp only [hji43] at H ⊢; exact H)
          have hji43_ : (if 8 < a2 then 8 else a2) = ji43 := hji43
          obtain ⟨ji44, hji44⟩ : ∃ j_ : Int, (mx 0 (ji43)) = j_ := ⟨_, rfl⟩
          replace H : (if t233 = true then (if a1 ≥ 0 then (if a1 < (ji44) then (if true = true then (some ((t237.length : Int) == ((ji44) - 1))) else (some false)) else (if true = true then (if (t237.length : Int) = (ji44) then (some true) else (some false)) else (some false))) else (if true = true then (if (t237.length : Int) = (ji44) then (some true) else (some false)) else (some false))) else (if true = true then ((sgi_Spread.f t232 t233 t234 t235).bind fun t247 => (some (decide ((t237.length : Int) ≤ t247)))) else (some false))) = some r := by first | (rw [hji44] at H; exact H) | (simp only [hji44] at H ⊢; exact H)
          have hji44_ : (if 0 < (ji43) then (ji43) else 0) = ji44 := hji44
          by_cases c45 : t233 = true
          · subst c45
            have H1 : (if a1 ≥ 0 then (if a1 < (ji44) then (if true = true then (some ((t237.length : Int) == ((ji44) - 1))) else (some false)) else (if true = true then (if (t237.length : Int) = (ji44) then (some true) else (some false)) else (some false))) else (if true = true then (if (t237.length : Int) = (ji44) then (some true) else (some false)) else (some false))) = some r := by first | (rw [if_pos rfl] at H; exact H) | (rw [if_pos trivial] at H; exact H)
            clear H
            have H := H1
            clear H1
            by_cases c46 : a1 ≥ 0
            · rw [if_pos c46] at H
              have c46b0 : decide (0 ≤ a1) = true := decide_eq_true c46
              clear c46
              by_cases c47 : a1 < (ji44)
              · rw [if_pos c47] at H
                have c47b0 : decide (a1 < (ji44)) = true := decide_eq_true c47
                clear c47
                by_cases c48 : true = true
                · clear c48
                  have H1 : (some ((t237.length : Int) == ((ji44) - 1))) = some r := by first | (rw [if_pos rfl] at H; exact H) | (rw [if_pos trivial] at H; exact H)
                  clear H
                  have H := H1
                  clear H1
                  obtain rfl := Option.some.inj H
                  obtain ⟨Ao49, co49, eo49⟩ := Kd.R_slice HO_9.out
                  subst eo49
                  have hcz50_0 : wr.cell? ⟨gb236, 0, none⟩ = some (.int .i64 t232) := (blk_cell BK236.out 0).trans rfl
                  have hcz50_1 : wr.cell? ⟨gb236, 1, none⟩ = some (.bool true) := (blk_cell BK236.out 1).trans rfl
                  have hcz50_2 : wr.cell? ⟨gb236, 2, none⟩ = some (.int .i64 t234) := (blk_cell BK236.out 2).trans rfl
                  have hcz50_3 : wr.cell? ⟨gb236, 3, none⟩ = some (.bool t235) := (blk_cell BK236.out 3).trans rfl
                  have hfz50_0 := blk_frozen BK236.out 0
                  have hfz50_1 := blk_frozen BK236.out 1
                  have hfz50_2 := blk_frozen BK236.out 2
                  have hfz50_3 := blk_frozen BK236.out 3
                  go_wp2
                  repeat (go_quiet (fail); try go_wp2)
                  go_ret
                  exact ⟨by first | rfl | (simp [errW_none, errW_some] <;> rfl) | (simp only [← hji43, ← hji44]; first | rfl | (simp [errW_none, errW_some] <;> rfl)) | (simp [*, errW_none, errW_some] <;> rfl), by repeat (first | (with_reducible first | exact HB.out | apply below_alloc | apply pw_below_drewN | apply below_drew1 | refine below_set ?_ GE236.out) | exact HB.out)⟩
                · exact absurd rfl c48
              · rw [if_neg c47] at H
                have c47b0 : decide (a1 < (ji44)) = false := decide_eq_false c47
                clear c47
                by_cases c53 : true = true
                · clear c53
                  have H1 : (if (t237.length : Int) = (ji44) then (some true) else (some false)) = some r := by first | (rw [if_pos rfl] at H; exact H) | (rw [if_pos trivial] at H; exact H)
                  clear H
                  have H := H1
                  clear H1
                  by_cases c54 : (t237.length : Int) = (ji44)
                  · rw [if_pos c54] at H
                    have c54b0 : ((t237.length : Int) == (ji44)) = true := beq_iff_eq.mpr c54
                    have c54b1 : ((t237.length : Int) != (ji44)) = false := bne_eq_false_iff_eq.mpr c54
                    clear c54
                    obtain rfl := Option.some.inj H
                    obtain ⟨Ao55, co55, eo55⟩ := Kd.R_slice HO_9.out
                    subst eo55
                    have hcz56_0 : wr.cell? ⟨gb236, 0, none⟩ = some (.int .i64 t232) := (blk_cell BK236.out 0).trans rfl
                    have hcz56_1 : wr.cell? ⟨gb236, 1, none⟩ = some (.bool true) := (blk_cell BK236.out 1).trans rfl
                    have hcz56_2 : wr.cell? ⟨gb236, 2, none⟩ = some (.int .i64 t234) := (blk_cell BK236.out 2).trans rfl
                    have hcz56_3 : wr.cell? ⟨gb236, 3, none⟩ = some (.bool t235) := (blk_cell BK236.out 3).trans rfl
                    have hfz56_0 := blk_frozen BK236.out 0
                    have hfz56_1 := blk_frozen BK236.out 1
                    have hfz56_2 := blk_frozen BK236.out 2
                    have hfz56_3 := blk_frozen BK236.out 3
                    go_wp2
                    repeat (go_quiet (fail); try go_wp2)
                    go_ret
                    exact ⟨by first | rfl | (simp [errW_none, errW_some] <;> rfl) | (simp only [← hji43, ← hji44]; first | rfl | (simp [errW_none, errW_some] <;> rfl)) | (simp [*, errW_none, errW_some] <;> rfl), by repeat (first | (with_reducible first | exact HB.out | apply below_alloc | apply pw_below_drewN | apply below_drew1 | refine below_set ?_ GE236.out) | exact HB.out)⟩
                  · rw [if_neg c54] at H
                    have c54b0 : ((t237.length : Int) == (ji44)) = false := beq_eq_false_iff_ne.mpr c54
                    have c54b1 : ((t237.length : Int) != (ji44)) = true := bne_iff_ne.mpr c54
                    obtain rfl := Option.some.inj H
                    exact absurd hT_.out (by simp)
                · exact absurd rfl c53
            · rw [if_neg c46] at H
              have c46b0 : decide (0 ≤ a1) = false := decide_eq_false c46
              clear c46
              by_cases c61 : true = true
              · clear c61
                have H1 : (if (t237.length : Int) = (ji44) then (some true) else (some false)) = some r := by first | (rw [if_pos rfl] at H; exact H) | (rw [if_pos trivial] at H; exact H)
                clear H
                have H := H1
                clear H1
                by_cases c62 : (t237.length : Int) = (ji44)
                · rw [if_pos c62] at H
                  have c62b0 : ((t237.length : Int) == (ji44)) = true := beq_iff_eq.mpr c62
                  have c62b1 : ((t237.length : Int) != (ji44)) = false := bne_eq_false_iff_eq.mpr c62
                  clear c62
                  obtain rfl := Option.some.inj H
                  obtain ⟨Ao63, co63, eo63⟩ := Kd.R_slice HO_9.out
                  subst eo63
                  have hcz64_0 : wr.cell? ⟨gb236, 0, none⟩ = some (.int .i64 t232) := (blk_cell BK236.out 0).trans rfl
                  have hcz64_1 : wr.cell? ⟨gb236, 1, none⟩ = some (.bool true) := (blk_cell BK236.out 1).trans rfl
                  have hcz64_2 : wr.cell? ⟨gb236, 2, none⟩ = some (.int .i64 t234) := (blk_cell BK236.out 2).trans rfl
                  have hcz64_3 : wr.cell? ⟨gb236, 3, none⟩ = some (.bool t235) := (blk_cell BK236.out 3).trans rfl
                  have hfz64_0 := blk_frozen BK236.out 0
                  have hfz64_1 := blk_frozen BK236.out 1
                  have hfz64_2 := blk_frozen BK236.out 2
                  have hfz64_3 := blk_frozen BK236.out 3
                  go_wp2
                  repeat (go_quiet (fail); try go_wp2)
                  go_ret
                  exact ⟨by first | rfl | (simp [errW_none, errW_some] <;> rfl) | (simp only [← hji43, ← hji44]; first | rfl | (simp [errW_none, errW_some] <;> rfl)) | (simp [*, errW_none, errW_some] <;> rfl), by repeat (first | (with_reducible first | exact HB.out | apply below_alloc | apply pw_below_drewN | apply below_drew1 | refine below_set ?_ GE236.out) | exact HB.out)⟩
                · rw [if_neg c62] at H
                  have c62b0 : ((t237.length : Int) == (ji44)) = false := beq_eq_false_iff_ne.mpr c62
                  have c62b1 : ((t237.length : Int) != (ji44)) = true := bne_iff_ne.mpr c62
                  obtain rfl := Option.some.inj H
                  exact absurd hT_.out (by simp)
              · exact absurd rfl c61
          · replace c45 := Bool.eq_false_iff.mpr c45
            subst c45
            have H1 : (if true = true then ((sgi_Spread.f t232 false t234 t235).bind fun t247 => (some (decide ((t237.length : Int) ≤ t247)))) else (some false)) = some r := by rw [if_neg (show ¬ (false = true) by decide)] at H; exact H
            clear H
            have H := H1
            clear H1
            by_cases c69 : true = true
            · clear c69
              have H1 : ((sgi_Spread.f t232 false t234 t235).bind fun t247 => (some (decide ((t237.length : Int) ≤ t247)))) = some r := by first | (rw [if_pos rfl] at H; exact H) | (rw [if_pos trivial] at H; exact H)
              clear H
              have H := H1
              clear H1
              replace H := Option.bind_eq_some_iff.mp H
              obtain ⟨t247, A700, H⟩ := H
              replace H : (some (decide ((t237.length : Int) ≤ t247))) = some r := H
              have A70 := Aside0.mk A700
              clear A700
              obtain rfl := Option.some.inj H
              obtain ⟨Ao71, co71, eo71⟩ := Kd.R_slice HO_9.out
              subst eo71
              have hcz72_0 : wr.cell? ⟨gb236, 0, none⟩ = some (.int .i64 t232) := (blk_cell BK236.out 0).trans rfl
              have hcz72_1 : wr.cell? ⟨gb236, 1, none⟩ = some (.bool false) := (blk_cell BK236.out 1).trans rfl
              have hcz72_2 : wr.cell? ⟨gb236, 2, none⟩ = some (.int .i64 t234) := (blk_cell BK236.out 2).trans rfl
              have hcz72_3 : wr.cell? ⟨gb236, 3, none⟩ = some (.bool t235) := (blk_cell BK236.out 3).trans rfl
              have hfz72_0 := blk_frozen BK236.out 0
              have hfz72_1 := blk_frozen BK236.out 1
              have hfz72_2 := blk_frozen BK236.out 2
              have hfz72_3 := blk_frozen BK236.out 3
              go_wp2_with (first | (go_at_call 20; (with_reducible refine (sgi_Spread.calls t232 false t234 t235 t247 _ A70.out).mono ?_); rintro e w73 ⟨rfl, hb⟩; have n0_ := Aside0.mk (Kd.R_below (by (with_reducible repeat (first | apply Kd.R_alloc | apply Kd.R_drewN | apply Kd.R_drew)); exact HO_9.out) hb); have n1_ := Aside0.mk (blk_below (g := gb236) (o := .cells #[.int .i64 t232, .bool false, .int .i64 t234, .bool t235] 24 (0, 0)) (by (with_reducible repeat (first | refine blk_drewN ?_ _ | refine blk_drew ?_ | refine blk_alloc ?_ _)); exact BK236.out) hb); have n2_ := Aside0.mk (below_step (by repeat (first | (with_reducible first | exact HB.out | apply below_alloc | apply pw_below_drewN | apply below_drew1 | refine below_set ?_ GE236.out) | exact HB.out)) hb); clear HO_9; clear BK236; clear HB; have HO_9 := n0_; have BK236 := n1_; have HB := n2_; clear n0_ n1_ n2_; (try clear hb); (try clear hb2); (try clear hk); (try clear hi)))
              repeat (go_quiet (first | (go_at_call 20; (with_reducible refine (sgi_Spread.calls t232 false t234 t235 t247 _ A70.out).mono ?_); rintro e w73 ⟨rfl, hb⟩; have n0_ := Aside0.mk (Kd.R_below (by (with_reducible repeat (first | apply Kd.R_alloc | apply Kd.R_drewN | apply Kd.R_drew)); exact HO_9.out) hb); have n1_ := Aside0.mk (blk_below (g := gb236) (o := .cells #[.int .i64 t232, .bool false, .int .i64 t234, .bool t235] 24 (0, 0)) (by (with_reducible repeat (first | refine blk_drewN ?_ _ | refine blk_drew ?_ | refine blk_alloc ?_ _)); exact BK236.out) hb); have n2_ := Aside0.mk (below_step (by repeat (first | (with_reducible first | exact HB.out | apply below_alloc | apply pw_below_drewN | apply below_drew1 | refine below_set ?_ GE236.out) | exact HB.out)) hb); clear HO_9; clear BK236; clear HB; have HO_9 := n0_; have BK236 := n1_; have HB := n2_; clear n0_ n1_ n2_; (try clear hb); (try clear hb2); (try clear hk); (try clear hi))); try go_wp2_with (first | (go_at_call 20; (with_reducible refine (sgi_Spread.calls t232 false t234 t235 t247 _ A70.out).mono ?_); rintro e w73 ⟨rfl, hb⟩; have n0_ := Aside0.mk (Kd.R_below (by (with_reducible repeat (first | apply Kd.R_alloc | apply Kd.R_drewN | apply Kd.R_drew)); exact HO_9.out) hb); have n1_ := Aside0.mk (blk_below (g := gb236) (o := .cells #[.int .i64 t232, .bool false, .int .i64 t234, .bool t235] 24 (0, 0)) (by (with_reducible repeat (first | refine blk_drewN ?_ _ | refine blk_drew ?_ | refine blk_alloc ?_ _)); exact BK236.out) hb); have n2_ := Aside0.mk (below_step (by repeat (first | (with_reducible first | exact HB.out | apply below_alloc | apply pw_below_drewN | apply below_drew1 | refine below_set ?_ GE236.out) | exact HB.out)) hb); clear HO_9; clear BK236; clear HB; have HO_9 := n0_; have BK236 := n1_; have HB := n2_; clear n0_ n1_ n2_; (try clear hb); (try clear hb2); (try clear hk); (try clear hi))))
              go_ret
              exact ⟨by first | rfl | (simp [errW_none, errW_some] <;> rfl) | (simp only [← hji43, ← hji44]; first | rfl | (simp [errW_none, errW_some] <;> rfl)) | (simp [*, errW_none, errW_some] <;> rfl), by repeat (first | (with_reducible first | exact HB.out | apply below_alloc | apply pw_below_drewN | apply below_drew1 | refine below_set ?_ GE236.out) | exact HB.out)⟩
            · exact absurd rfl c69
  · replace c5 := Bool.eq_false_iff.mpr c5
    subst c5
    have H1 : (some false) = some r := by rw [if_neg (show ¬ (false = true) by decide)] at H; exact H
    clear H
    have H := H1
    clear H1
    obtain rfl := Option.some.inj H
    exact absurd hT_.out (by simp)

/-- THE ONE PURE STATEMENT of crierlaw12_SgiRises: yours. -/
def crierlaw12_SgiRises.Pure : Prop := ∀ (a0 : Int) (a1 : Int) (a2 : Int), (Lit.int .u64 a0).wf = true → (Lit.int .i64 a1).wf = true → (Lit.int .i64 a2).wf = true → ∃ k, crierlaw12_SgiRises.f k a0 a1 a2 = some true
theorem crierlaw12_SgiRises.walk (P : crierlaw12_SgiRises.Pure) (a0 : Int) (a1 : Int) (a2 : Int) (w : World) (w0 : (Lit.int .u64 a0).wf = true) (w1 : (Lit.int .i64 a1).wf = true) (w2 : (Lit.int .i64 a2).wf = true) :
    Calls Try.prog 8 #[.int .u64 a0, .int .i64 a1, .int .i64 a2] w fun e w' => e = .returned (.bool true) ∧ Below w.heap.size w w' := by
  obtain ⟨k, h⟩ := P a0 a1 a2 w0 w1 w2
  refine (crierlaw12_SgiRises.calls k a0 a1 a2 true w h (Aside0.mk rfl)).mono ?_
  rintro e w' ⟨rfl, hd⟩
  exact ⟨rfl, hd⟩

end Go.Proofs.Ytfenchaiflfobaa.IAll
