-- Written by the program wip/gen/inj.py of this repository, out of the translation, for this claim. Not trusted: Lean checks it.
import Derived.Test.YtfenchaiflfobaaIAllx0
import Derived.Test.YtfenchaiflfobaaIAllx1
import Derived.Test.YtfenchaiflfobaaIAllx3
import Derived.Test.YtfenchaiflfobaaIAllx4
import Derived.Test.YtfenchaiflfobaaIAllx11
import Derived.Test.YtfenchaiflfobaaIAllx13
namespace Go.Proofs.Ytfenchaiflfobaa.IAll
open Go.RowKit Go.Proofs.YtfenchaiflfobaaW.PrintWords Go.Proofs.YtfenchaiflfobaaW.PrintLast Go.Proofs.YtfenchaiflfobaaW.PrintMore
attribute [local go_sem] max2_int min2_int max_two min_two max_three min_three max_four min_four   -- for this text's walks alone
set_option linter.unusedVariables false
set_option linter.unusedSimpArgs false

attribute [local go_sem high] eqA24
/-! ### crierlaw12_SgiWhom: function 7 -/
mutual
def crierlaw12_SgiWhom.l0 : Nat → Int → List Int → Int → Bool → Int → Bool → Int → Int → Bool → Int → Bool → Option (Bool)
  | 0, _, _, _, _, _, _, _, _, _, _, _ => none
  | k + 1, x0, x1, x2, x7, x9, x10, x11, x221000, x221001, x221002, x221003 => if x11 < (x1.length : Int) then (if x10 = true then (if 0 ≤ x11 then (if (rd x1 x11) ≥ 0 then (crierlaw12_SgiWhom.l0 k x0 x1 x2 x7 x9 (decide ((rd x1 x11) < 8)) (wrap64 (x11 + 1)) x221000 x221001 x221002 x221003) else (crierlaw12_SgiWhom.l0 k x0 x1 x2 x7 x9 false (wrap64 (x11 + 1)) x221000 x221001 x221002 x221003)) else (none)) else (crierlaw12_SgiWhom.l0 k x0 x1 x2 x7 x9 false (wrap64 (x11 + 1)) x221000 x221001 x221002 x221003)) else (if x10 = true then (if x0 < 0 then (crierlaw12_SgiWhom.j1 k x0 x1 x2 x7 x9 x10 true x221000 x221001 x221002 x221003) else (crierlaw12_SgiWhom.j1 k x0 x1 x2 x7 x9 x10 (decide (x0 > 15)) x221000 x221001 x221002 x221003)) else (crierlaw12_SgiWhom.j1 k x0 x1 x2 x7 x9 x10 true x221000 x221001 x221002 x221003))
def crierlaw12_SgiWhom.j1 : Nat → Int → List Int → Int → Bool → Int → Bool → Bool → Int → Bool → Int → Bool → Option (Bool)
  | 0, _, _, _, _, _, _, _, _, _, _, _ => none
  | k + 1, x0, x1, x2, x7, x9, x10, x54, x221000, x221001, x221002, x221003 => if x54 = true then (if x7 = true then (if x10 = true then (if x9 = 1 then (some (x221000 == 0 && (!x221001 && (x221002 == 0 && (!x221003))))) else (some false)) else (if x9 = 130 then (some (x221000 == 0 && (!x221001 && (x221002 == 0 && (!x221003))))) else (some false))) else (some false)) else ((crierlaw12_to.f x221000 x221001 x221002 x221003 x2 8).bind fun t223 => (crierlaw12_SgiWhom.l1 k x0 x1 x7 x9 t223 0 x221000 x221001 x221002 x221003))
def crierlaw12_SgiWhom.l1 : Nat → Int → List Int → Bool → Int → List Int → Int → Int → Bool → Int → Bool → Option (Bool)
  | 0, _, _, _, _, _, _, _, _, _, _ => none
  | k + 1, x0, x1, x7, x9, x12, x13, x221000, x221001, x221002, x221003 => if x13 < (x12.length : Int) then (if 0 ≤ x13 then ((crierref01_Has.f k x1 (rd x12 x13)).bind fun t227 => (if t227 = true then (crierlaw12_SgiWhom.l1 k x0 x1 x7 x9 x12 (wrap64 (x13 + 1)) x221000 x221001 x221002 x221003) else (some false))) else (none)) else (crierlaw12_SgiWhom.l2 k x0 x1 x7 x9 x12 0 x221000 x221001 x221002 x221003)
def crierlaw12_SgiWhom.l2 : Nat → Int → List Int → Bool → Int → List Int → Int → Int → Bool → Int → Bool → Option (Bool)
  | 0, _, _, _, _, _, _, _, _, _, _ => none
  | k + 1, x0, x1, x7, x9, x12, x14, x221000, x221001, x221002, x221003 => if x14 < (x1.length : Int) then (if 0 ≤ x14 then ((crierref01_Has.f k x12 (rd x1 x14)).bind fun t229 => (if t229 = true then (crierlaw12_SgiWhom.l2 k x0 x1 x7 x9 x12 (wrap64 (x14 + 1)) x221000 x221001 x221002 x221003) else (some false))) else (none)) else (if x7 = true then (if x9 = 0 then (if x221000 = x0 then ((sgi_Spread.f x221000 x221001 x221002 x221003).bind fun t230 => (some (t230 == (x12.length : Int)))) else (some false)) else (some false)) else (some false))
end
def crierlaw12_SgiWhom.f (k : Nat) (a0 : Int) (l1 : List Int) (a2 : Int) : Option (Bool) := (crierlaw12_awake.f k).bind fun t214 => (if t214 = true then ((sgi_Whom.f k a0 l1).bind fun bt215 => (crierlaw12_SgiWhom.l0 k a0 l1 a2 t214 bt215.2.2.2.2 true 0 bt215.1 bt215.2.1 bt215.2.2.1 bt215.2.2.2.1)) else (some false))
theorem crierlaw12_SgiWhom.mono_l : ∀ k, (∀ y0 y1 y2 y3 y4 y5 y6 y7 y8 y9 y10, LeO (crierlaw12_SgiWhom.l0 k y0 y1 y2 y3 y4 y5 y6 y7 y8 y9 y10) (crierlaw12_SgiWhom.l0 (k + 1) y0 y1 y2 y3 y4 y5 y6 y7 y8 y9 y10)) ∧ (∀ y0 y1 y2 y3 y4 y5 y6 y7 y8 y9 y10, LeO (crierlaw12_SgiWhom.j1 k y0 y1 y2 y3 y4 y5 y6 y7 y8 y9 y10) (crierlaw12_SgiWhom.j1 (k + 1) y0 y1 y2 y3 y4 y5 y6 y7 y8 y9 y10)) ∧ (∀ y0 y1 y2 y3 y4 y5 y6 y7 y8 y9, LeO (crierlaw12_SgiWhom.l1 k y0 y1 y2 y3 y4 y5 y6 y7 y8 y9) (crierlaw12_SgiWhom.l1 (k + 1) y0 y1 y2 y3 y4 y5 y6 y7 y8 y9)) ∧ (∀ y0 y1 y2 y3 y4 y5 y6 y7 y8 y9, LeO (crierlaw12_SgiWhom.l2 k y0 y1 y2 y3 y4 y5 y6 y7 y8 y9) (crierlaw12_SgiWhom.l2 (k + 1) y0 y1 y2 y3 y4 y5 y6 y7 y8 y9))
  | 0 => ⟨fun _ _ _ _ _ _ _ _ _ _ _ r h => by simp [crierlaw12_SgiWhom.l0] at h, fun _ _ _ _ _ _ _ _ _ _ _ r h => by simp [crierlaw12_SgiWhom.j1] at h, fun _ _ _ _ _ _ _ _ _ _ r h => by simp [crierlaw12_SgiWhom.l1] at h, fun _ _ _ _ _ _ _ _ _ _ r h => by simp [crierlaw12_SgiWhom.l2] at h⟩
  | k + 1 => by
    obtain ⟨ih0, ih1, ih2, ih3⟩ := crierlaw12_SgiWhom.mono_l k
    refine ⟨?_, ?_, ?_, ?_⟩
    · intro y0 y1 y2 y3 y4 y5 y6 y7 y8 y9 y10
      unfold crierlaw12_SgiWhom.l0
      repeat' first
      | (with_reducible exact ih0 _ _ _ _ _ _ _ _ _ _ _)
      | (with_reducible exact ih1 _ _ _ _ _ _ _ _ _ _ _)
      | (with_reducible exact ih2 _ _ _ _ _ _ _ _ _ _)
      | (with_reducible exact ih3 _ _ _ _ _ _ _ _ _ _)
      | (with_reducible exact crierlaw12_awake.mono _)
      | (with_reducible exact crierref01_Has.mono _ _ _)
      | (with_reducible exact sgi_Whom.mono _ _ _)
      | (with_reducible exact LeO.refl _)
      | (with_reducible exact LeO.none _)
      | (with_reducible refine LeO.ite ?_ ?_)
      | (with_reducible refine LeO.bind ?_ (fun _ => ?_))
      | exact ih0 _ _ _ _ _ _ _ _ _ _ _
      | exact ih1 _ _ _ _ _ _ _ _ _ _ _
      | exact ih2 _ _ _ _ _ _ _ _ _ _
      | exact ih3 _ _ _ _ _ _ _ _ _ _
      | exact crierlaw12_awake.mono _
      | exact crierref01_Has.mono _ _ _
      | exact sgi_Whom.mono _ _ _
      | exact LeO.none _
      | refine LeO.ite ?_ ?_
      | refine LeO.bind ?_ (fun _ => ?_)
    · intro y0 y1 y2 y3 y4 y5 y6 y7 y8 y9 y10
      unfold crierlaw12_SgiWhom.j1
      repeat' first
      | (with_reducible exact ih0 _ _ _ _ _ _ _ _ _ _ _)
      | (with_reducible exact ih1 _ _ _ _ _ _ _ _ _ _ _)
      | (with_reducible exact ih2 _ _ _ _ _ _ _ _ _ _)
      | (with_reducible exact ih3 _ _ _ _ _ _ _ _ _ _)
      | (with_reducible exact crierlaw12_awake.mono _)
      | (with_reducible exact crierref01_Has.mono _ _ _)
      | (with_reducible exact sgi_Whom.mono _ _ _)
      | (with_reducible exact LeO.refl _)
      | (with_reducible exact LeO.none _)
      | (with_reducible refine LeO.ite ?_ ?_)
      | (with_reducible refine LeO.bind ?_ (fun _ => ?_))
      | exact ih0 _ _ _ _ _ _ _ _ _ _ _
      | exact ih1 _ _ _ _ _ _ _ _ _ _ _
      | exact ih2 _ _ _ _ _ _ _ _ _ _
      | exact ih3 _ _ _ _ _ _ _ _ _ _
      | exact crierlaw12_awake.mono _
      | exact crierref01_Has.mono _ _ _
      | exact sgi_Whom.mono _ _ _
      | exact LeO.none _
      | refine LeO.ite ?_ ?_
      | refine LeO.bind ?_ (fun _ => ?_)
    · intro y0 y1 y2 y3 y4 y5 y6 y7 y8 y9
      unfold crierlaw12_SgiWhom.l1
      repeat' first
      | (with_reducible exact ih0 _ _ _ _ _ _ _ _ _ _ _)
      | (with_reducible exact ih1 _ _ _ _ _ _ _ _ _ _ _)
      | (with_reducible exact ih2 _ _ _ _ _ _ _ _ _ _)
      | (with_reducible exact ih3 _ _ _ _ _ _ _ _ _ _)
      | (with_reducible exact crierlaw12_awake.mono _)
      | (with_reducible exact crierref01_Has.mono _ _ _)
      | (with_reducible exact sgi_Whom.mono _ _ _)
      | (with_reducible exact LeO.refl _)
      | (with_reducible exact LeO.none _)
      | (with_reducible refine LeO.ite ?_ ?_)
      | (with_reducible refine LeO.bind ?_ (fun _ => ?_))
      | exact ih0 _ _ _ _ _ _ _ _ _ _ _
      | exact ih1 _ _ _ _ _ _ _ _ _ _ _
      | exact ih2 _ _ _ _ _ _ _ _ _ _
      | exact ih3 _ _ _ _ _ _ _ _ _ _
      | exact crierlaw12_awake.mono _
      | exact crierref01_Has.mono _ _ _
      | exact sgi_Whom.mono _ _ _
      | exact LeO.none _
      | refine LeO.ite ?_ ?_
      | refine LeO.bind ?_ (fun _ => ?_)
    · intro y0 y1 y2 y3 y4 y5 y6 y7 y8 y9
      unfold crierlaw12_SgiWhom.l2
      repeat' first
      | (with_reducible exact ih0 _ _ _ _ _ _ _ _ _ _ _)
      | (with_reducible exact ih1 _ _ _ _ _ _ _ _ _ _ _)
      | (with_reducible exact ih2 _ _ _ _ _ _ _ _ _ _)
      | (with_reducible exact ih3 _ _ _ _ _ _ _ _ _ _)
      | (with_reducible exact crierlaw12_awake.mono _)
      | (with_reducible exact crierref01_Has.mono _ _ _)
      | (with_reducible exact sgi_Whom.mono _ _ _)
      | (with_reducible exact LeO.refl _)
      | (with_reducible exact LeO.none _)
      | (with_reducible refine LeO.ite ?_ ?_)
      | (with_reducible refine LeO.bind ?_ (fun _ => ?_))
      | exact ih0 _ _ _ _ _ _ _ _ _ _ _
      | exact ih1 _ _ _ _ _ _ _ _ _ _ _
      | exact ih2 _ _ _ _ _ _ _ _ _ _
      | exact ih3 _ _ _ _ _ _ _ _ _ _
      | exact crierlaw12_awake.mono _
      | exact crierref01_Has.mono _ _ _
      | exact sgi_Whom.mono _ _ _
      | exact LeO.none _
      | refine LeO.ite ?_ ?_
      | refine LeO.bind ?_ (fun _ => ?_)
theorem crierlaw12_SgiWhom.mono : ∀ a0 a1 a2 k, LeO (crierlaw12_SgiWhom.f k a0 a1 a2) (crierlaw12_SgiWhom.f (k + 1) a0 a1 a2) := by
  intro a0 a1 a2 k
  obtain ⟨ih0, ih1, ih2, ih3⟩ := crierlaw12_SgiWhom.mono_l k
  unfold crierlaw12_SgiWhom.f
  repeat' first
      | (with_reducible exact ih0 _ _ _ _ _ _ _ _ _ _ _)
      | (with_reducible exact ih1 _ _ _ _ _ _ _ _ _ _ _)
      | (with_reducible exact ih2 _ _ _ _ _ _ _ _ _ _)
      | (with_reducible exact ih3 _ _ _ _ _ _ _ _ _ _)
      | (with_reducible exact crierlaw12_awake.mono _)
      | (with_reducible exact crierref01_Has.mono _ _ _)
      | (with_reducible exact sgi_Whom.mono _ _ _)
      | (with_reducible exact LeO.refl _)
      | (with_reducible exact LeO.none _)
      | (with_reducible refine LeO.ite ?_ ?_)
      | (with_reducible refine LeO.bind ?_ (fun _ => ?_))
      | exact ih0 _ _ _ _ _ _ _ _ _ _ _
      | exact ih1 _ _ _ _ _ _ _ _ _ _ _
      | exact ih2 _ _ _ _ _ _ _ _ _ _
      | exact ih3 _ _ _ _ _ _ _ _ _ _
      | exact crierlaw12_awake.mono _
      | exact crierref01_Has.mono _ _ _
      | exact sgi_Whom.mono _ _ _
      | exact LeO.none _
      | refine LeO.ite ?_ ?_
      | refine LeO.bind ?_ (fun _ => ?_)
set_option maxHeartbeats 8000000 in
set_option maxRecDepth 100000 in
theorem crierlaw12_SgiWhom.calls (k : Nat) (a0 : Int) (A1 : Option Addr) (c1 : Nat) (l1 : List Int) (a2 : Int) (r : Bool) (w : World) (hr1 : Kd.C (Kd.int .i64) w A1 l1.length l1) (hc1 : l1.length ≤ c1) (h : crierlaw12_SgiWhom.f k a0 l1 a2 = some r) (hT_ : Aside0 (r = true)) :
    Calls Try.prog 7 #[.int .i64 a0, .slice A1 l1.length c1, .int .i64 a2] w fun e w' => e = .returned (.bool r) ∧ Below w.heap.size w w' := by
  have hu24 := Try.underlying24
  have HR1 := Aside0.mk hr1
  have HC1 := Aside0.mk hc1
  clear hr1 hc1
  have HB := Aside0.mk (Below.refl w.heap.size w)
  have H : ((crierlaw12_awake.f k).bind fun t214 => (if t214 = true then ((sgi_Whom.f k a0 l1).bind fun bt215 => (crierlaw12_SgiWhom.l0 k a0 l1 a2 t214 bt215.2.2.2.2 true 0 bt215.1 bt215.2.1 bt215.2.2.1 bt215.2.2.2.1)) else (some false))) = some r := h
  clear h
  replace H := Option.bind_eq_some_iff.mp H
  obtain ⟨t214, A40, H⟩ := H
  replace H : (if t214 = true then ((sgi_Whom.f k a0 l1).bind fun bt215 => (crierlaw12_SgiWhom.l0 k a0 l1 a2 t214 bt215.2.2.2.2 true 0 bt215.1 bt215.2.1 bt215.2.2.1 bt215.2.2.2.1)) else (some false)) = some r := H
  have A4 := Aside0.mk A40
  clear A40
  by_cases c5 : t214 = true
  · subst c5
    have H1 : ((sgi_Whom.f k a0 l1).bind fun bt215 => (crierlaw12_SgiWhom.l0 k a0 l1 a2 true bt215.2.2.2.2 true 0 bt215.1 bt215.2.1 bt215.2.2.1 bt215.2.2.2.1)) = some r := by first | (rw [if_pos rfl] at H; exact H) | (rw [if_pos trivial] at H; exact H)
    clear H
    have H := H1
    clear H1
    replace H := Option.bind_eq_some_iff.mp H
    obtain ⟨⟨t215, t216, t217, t218, t219⟩, A60, H⟩ := H
    replace H : (crierlaw12_SgiWhom.l0 k a0 l1 a2 true t219 true 0 t215 t216 t217 t218) = some r := H
    have A6 := Aside0.mk A60
    clear A60
    have H' := Aside0.mk H
    clear H
    go_enter Try.func7, Try.ntmps7
    go_wp2_with (first | ((with_reducible refine gate_callee (f := 10) rfl ?_); refine goesL_ (some 15) rfl rfl Try.func10 (by kernel_rfl) rfl #[] rfl (by (try simp only [List.map_toArray, List.map_cons, List.map_nil]); first | done | rfl | (simp only [List.length_drop, List.length_take]; rfl)) ?_; (with_reducible refine (crierlaw12_awake.calls k  true _ A4.out).mono ?_); rintro e w7 ⟨rfl, hb⟩; refine ⟨_, rfl, ?_⟩; have n0_ := Aside0.mk (below_step (by repeat (first | (with_reducible first | exact HB.out | apply below_alloc | apply pw_below_drewN | apply below_drew1) | exact HB.out)) hb); clear HB; have HB := n0_; clear n0_; (try clear hb); (try clear hb2); (try clear hk); (try clear hi)) | ((with_reducible refine gate_callee (f := 19) rfl ?_); refine goesL_ (some 21) rfl rfl Try.func19 (by kernel_rfl) rfl #[.int .i64 a0, .slice A1 l1.length c1] rfl (by (try simp only [List.map_toArray, List.map_cons, List.map_nil]); first | done | rfl | (simp only [List.length_drop, List.length_take]; rfl)) ?_; (with_reducible refine (sgi_Whom.calls k a0 _ _ l1 t215 t216 t217 t218 t219 _ ?side1 ?side2 A6.out).mono ?_); (case side1 => repeat (first | exact (Kd.C_below HR1.out HB.out) | (with_reducible refine Kd.C_alloc ?_ _) | (with_reducible refine Kd.C_drewN ?_ _) | (with_reducible refine Kd.C_drew ?_))); (case side2 => exact HC1.out); rintro e w8 ⟨rfl, hb⟩; refine ⟨_, rfl, ?_⟩; have n0_ := Aside0.mk (below_step (by repeat (first | (with_reducible first | exact HB.out | apply below_alloc | apply pw_below_drewN | apply below_drew1) | exact HB.out)) hb); clear HB; have HB := n0_; clear n0_; (try clear hb); (try clear hb2); (try clear hk); (try clear hi)) | ((with_reducible refine gate_dst (N := 8) rfl ?_); (try (refine gate_guard (by rfl) ?_; dsimp only)); refine box_event ?hg (N := 8) ?hd (cs := #[.int .i64 0, .bool false, .int .i64 0, .bool false]) (t := 24) ?hr ?_; (case hd => rfl); (case hg => rfl); (case hr => first | (go_simp; done) | (go_simp; rfl)); intro gb220 hg w9 hbox hb; have n0_ := Aside0.mk (below_step (by repeat (first | (with_reducible first | exact HB.out | apply below_alloc | apply pw_below_drewN | apply below_drew1) | exact HB.out)) hb); have n1_ := Aside0.mk (hbox); have n2_ := Aside0.mk ((by rw [hg]; exact (below_size (by repeat (first | (with_reducible first | exact HB.out | apply below_alloc | apply pw_below_drewN | apply below_drew1) | exact HB.out))) : w.heap.size ≤ gb220)); have n3_ := Aside0.mk ((by rw [hg]; exact (below_size (by repeat (first | (with_reducible first | exact HB.out | apply below_alloc | apply pw_below_drewN | apply below_drew1) | exact HB.out))) : w.heap.size ≤ gb220)); clear HB; have HB := n0_; have BK220 := n1_; have GW220 := n2_; have GE220 := n3_; clear n0_ n1_ n2_ n3_; clear hb hbox hg; have hcz10_0 : w9.cell? ⟨gb220, 0, none⟩ = some (.int .i64 0) := (blk_cell BK220.out 0).trans rfl; have hcz10_1 : w9.cell? ⟨gb220, 1, none⟩ = some (.bool false) := (blk_cell BK220.out 1).trans rfl; have hcz10_2 : w9.cell? ⟨gb220, 2, none⟩ = some (.int .i64 0) := (blk_cell BK220.out 2).trans rfl; have hcz10_3 : w9.cell? ⟨gb220, 3, none⟩ = some (.bool false) := (blk_cell BK220.out 3).trans rfl; have hfz10_0 := blk_frozen BK220.out 0; have hfz10_1 := blk_frozen BK220.out 1; have hfz10_2 := blk_frozen BK220.out 2; have hfz10_3 := blk_frozen BK220.out 3))
    go_loopg [10, 11] k (fun kq v10 v11 w' => ∃ (x10_1 : Bool) (x11_1 : Int), v10 = .bool x10_1 ∧ v11 = .int .i64 x11_1 ∧ Aside0 (crierlaw12_SgiWhom.l0 kq a0 l1 a2 true t219 x10_1 x11_1 t215 t216 t217 t218 = some r) ∧ Aside0 (kq ≤ k) ∧ Aside0 (w'.heap[gb220]? = some (.cells #[.int .i64 t215, .bool t216, .int .i64 t217, .bool t218] 24 (0, 0))) ∧ Aside0 (Below w.heap.size w w'))
    case atStart => exact ⟨(true), (0), (by first | rfl | (simp; done) | (simp [*]; done)), (by first | rfl | (simp; done) | (simp [*]; done)), H', ⟨Nat.le_refl _⟩, ⟨by (with_reducible repeat (first | refine blk_drewN ?_ _ | refine blk_drew ?_ | refine blk_alloc ?_ _)); refine blk_put (cs := #[.int .i64 t215, .bool t216, .int .i64 t217, .bool false]) ?_ 3 _ rfl; (with_reducible repeat (first | refine blk_drewN ?_ _ | refine blk_drew ?_ | refine blk_alloc ?_ _)); refine blk_put (cs := #[.int .i64 t215, .bool t216, .int .i64 0, .bool false]) ?_ 2 _ rfl; (with_reducible repeat (first | refine blk_drewN ?_ _ | refine blk_drew ?_ | refine blk_alloc ?_ _)); refine blk_put (cs := #[.int .i64 t215, .bool false, .int .i64 0, .bool false]) ?_ 1 _ rfl; (with_reducible repeat (first | refine blk_drewN ?_ _ | refine blk_drew ?_ | refine blk_alloc ?_ _)); refine blk_put (cs := #[.int .i64 0, .bool false, .int .i64 0, .bool false]) ?_ 0 _ rfl; (with_reducible repeat (first | refine blk_drewN ?_ _ | refine blk_drew ?_ | refine blk_alloc ?_ _)); exact BK220.out⟩, ⟨by repeat (first | (with_reducible first | exact HB.out | apply below_alloc | apply pw_below_drewN | apply below_drew1 | refine below_set ?_ GE220.out) | exact HB.out)⟩⟩
    case round =>
      clear H'
      try clear c1
      try clear p2
      try clear c5
      try clear c7
      try clear c10
      try clear hcz10_0
      try clear hcz10_1
      try clear hcz10_2
      try clear hcz10_3
      try clear hfz10_0
      try clear hfz10_1
      try clear hfz10_2
      try clear hfz10_3
      obtain ⟨x10_1, x11_1, rfl, rfl, HA, HK1, BK220, HB⟩ := hrel
      cases gk with
      | zero => exact absurd HA.out (by simp [crierlaw12_SgiWhom.l0])
      | succ k1 =>
        have H := HA.out
        clear HA
        simp only [crierlaw12_SgiWhom.l0] at H
        by_cases c11 : x11_1 < (l1.length : Int)
        · rw [if_pos c11] at H
          have c11b0 : decide (x11_1 < (l1.length : Int)) = true := decide_eq_true c11
          clear c11
          by_cases c12 : x10_1 = true
          · subst c12
            have H1 : (if 0 ≤ x11_1 then (if (rd l1 x11_1) ≥ 0 then (crierlaw12_SgiWhom.l0 k1 a0 l1 a2 true t219 (decide ((rd l1 x11_1) < 8)) (wrap64 (x11_1 + 1)) t215 t216 t217 t218) else (crierlaw12_SgiWhom.l0 k1 a0 l1 a2 true t219 false (wrap64 (x11_1 + 1)) t215 t216 t217 t218)) else (none)) = some r := by first | (rw [if_pos rfl] at H; exact H) | (rw [if_pos trivial] at H; exact H)
            clear H
            have H := H1
            clear H1
            by_cases c13 : 0 ≤ x11_1
            · rw [if_pos c13] at H
              have c13b0 : decide (0 ≤ x11_1) = true := decide_eq_true c13
              clear c13
              by_cases c14 : (rd l1 x11_1) ≥ 0
              · rw [if_pos c14] at H
                have c14b0 : decide (0 ≤ (rd l1 x11_1)) = true := decide_eq_true c14
                clear c14
                have H' := Aside0.mk H
                clear H
                have p221 : 0 ≤ (x11_1 : Int) := of_decide_eq_true (by first | (with_reducible assumption) | assumption)
                have q221 : x11_1 < (l1.length : Int) := of_decide_eq_true (by first | (with_reducible assumption) | assumption)
                obtain ⟨ad221, e221, hx221_0⟩ := Kd.at_int HR1.out x11_1 p221 q221
                cases e221
                replace hx221_0 := (HB.out.cell (World.block_lt_of_cell? w _ hx221_0)).trans hx221_0
                replace p221 := eq_true p221
                replace q221 := eq_true q221
                have p222 : 0 ≤ (x11_1 : Int) := of_decide_eq_true (by first | (with_reducible assumption) | assumption)
                have q222 : x11_1 < (l1.length : Int) := of_decide_eq_true (by first | (with_reducible assumption) | assumption)
                obtain ⟨ad222, e222, hx222_0⟩ := Kd.at_int HR1.out x11_1 p222 q222
                obtain rfl : ad221 = ad222 := (by injection e222)
                replace hx222_0 := (HB.out.cell (World.block_lt_of_cell? w _ hx222_0)).trans hx222_0
                replace p222 := eq_true p222
                replace q222 := eq_true q222
                go_wp2
                go_roundg k1
                case measure => have := HK1.out; omega
                case rel => exact ⟨(decide ((rd l1 x11_1) < 8)), (wrap64 (x11_1 + 1)), (by first | rfl | (simp; done) | (simp [*]; done)), (by first | rfl | (simp; done) | (simp [*]; done)), H', ⟨by have := HK1.out; omega⟩, ⟨by (with_reducible repeat (first | refine blk_drewN ?_ _ | refine blk_drew ?_ | refine blk_alloc ?_ _)); exact BK220.out⟩, ⟨by repeat (first | (with_reducible first | exact HB.out | apply below_alloc | apply pw_below_drewN | apply below_drew1 | refine below_set ?_ GE220.out) | exact HB.out)⟩⟩
              · rw [if_neg c14] at H
                have c14b0 : decide (0 ≤ (rd l1 x11_1)) = false := decide_eq_false c14
                clear c14
                have H' := Aside0.mk H
                clear H
                have p221 : 0 ≤ (x11_1 : Int) := of_decide_eq_true (by first | (with_reducible assumption) | assumption)
                have q221 : x11_1 < (l1.length : Int) := of_decide_eq_true (by first | (with_reducible assumption) | assumption)
                obtain ⟨ad221, e221, hx221_0⟩ := Kd.at_int HR1.out x11_1 p221 q221
                cases e221
                replace hx221_0 := (HB.out.cell (World.block_lt_of_cell? w _ hx221_0)).trans hx221_0
                replace p221 := eq_true p221
                replace q221 := eq_true q221
                go_wp2
                go_roundg k1
                case measure => have := HK1.out; omega
                case rel => exact ⟨(false), (wrap64 (x11_1 + 1)), (by first | rfl | (simp; done) | (simp [*]; done)), (by first | rfl | (simp; done) | (simp [*]; done)), H', ⟨by have := HK1.out; omega⟩, ⟨by (with_reducible repeat (first | refine blk_drewN ?_ _ | refine blk_drew ?_ | refine blk_alloc ?_ _)); exact BK220.out⟩, ⟨by repeat (first | (with_reducible first | exact HB.out | apply below_alloc | apply pw_below_drewN | apply below_drew1 | refine below_set ?_ GE220.out) | exact HB.out)⟩⟩
            · rw [if_neg c13] at H
              exact absurd H (by simp)
          · replace c12 := Bool.eq_false_iff.mpr c12
            subst c12
            have H1 : (crierlaw12_SgiWhom.l0 k1 a0 l1 a2 true t219 false (wrap64 (x11_1 + 1)) t215 t216 t217 t218) = some r := by rw [if_neg (show ¬ (false = true) by decide)] at H; exact H
            clear H
            have H := H1
            clear H1
            have H' := Aside0.mk H
            clear H
            go_wp2
            go_roundg k1
            case measure => have := HK1.out; omega
            case rel => exact ⟨(false), (wrap64 (x11_1 + 1)), (by first | rfl | (simp; done) | (simp [*]; done)), (by first | rfl | (simp; done) | (simp [*]; done)), H', ⟨by have := HK1.out; omega⟩, ⟨by (with_reducible repeat (first | refine blk_drewN ?_ _ | refine blk_drew ?_ | refine blk_alloc ?_ _)); exact BK220.out⟩, ⟨by repeat (first | (with_reducible first | exact HB.out | apply below_alloc | apply pw_below_drewN | apply below_drew1 | refine below_set ?_ GE220.out) | exact HB.out)⟩⟩
        · rw [if_neg c11] at H
          have c11b0 : decide (x11_1 < (l1.length : Int)) = false := decide_eq_false c11
          clear c11
          have HC15 := Aside0.mk H
          clear H
          go_upto_region 10 with (fail)
          go_cut [54] (fun v54 wc => ∃ (kq : Nat) (x54_14 : Bool), v54 = .bool x54_14 ∧ Aside0 (crierlaw12_SgiWhom.j1 kq a0 l1 a2 true t219 x10_1 x54_14 t215 t216 t217 t218 = some r) ∧ Aside0 (kq ≤ k1) ∧ Aside0 (wc.heap[gb220]? = some (.cells #[.int .i64 t215, .bool t216, .int .i64 t217, .bool t218] 24 (0, 0))) ∧ Aside0 (Below w.heap.size w wc))
          case first =>
            have H := HC15.out
            clear HC15
            by_cases c16 : x10_1 = true
            · subst c16
              have H1 : (if a0 < 0 then (crierlaw12_SgiWhom.j1 k1 a0 l1 a2 true t219 true true t215 t216 t217 t218) else (crierlaw12_SgiWhom.j1 k1 a0 l1 a2 true t219 true (decide (a0 > 15)) t215 t216 t217 t218)) = some r := by first | (rw [if_pos rfl] at H; exact H) | (rw [if_pos trivial] at H; exact H)
              clear H
              have H := H1
              clear H1
              by_cases c17 : a0 < 0
              · rw [if_pos c17] at H
                have c17b0 : decide (a0 < 0) = true := decide_eq_true c17
                clear c17
                (first | rw [c17b0] | (simp only [i64_w, i32_w]; rw [c17b0]) | skip)
                have H' := Aside0.mk H
                clear H
                go_wp2
                go_meet
                case rel => exact ⟨_, (true), (by first | rfl | (simp; done) | (simp [*]; done)), H', ⟨by have := HK1.out; first | omega | exact Nat.le_refl _⟩, ⟨by (with_reducible repeat (first | refine blk_drewN ?_ _ | refine blk_drew ?_ | refine blk_alloc ?_ _)); exact BK220.out⟩, ⟨by repeat (first | (with_reducible first | exact HB.out | apply below_alloc | apply pw_below_drewN | apply below_drew1 | refine below_set ?_ GE220.out) | exact HB.out)⟩⟩
              · rw [if_neg c17] at H
                have c17b0 : decide (a0 < 0) = false := decide_eq_false c17
                clear c17
                (first | rw [c17b0] | (simp only [i64_w, i32_w]; rw [c17b0]) | skip)
                have H' := Aside0.mk H
                clear H
                go_wp2
                go_meet
                case rel => exact ⟨_, (decide (a0 > 15)), (by first | rfl | (simp; done) | (simp [*]; done)), H', ⟨by have := HK1.out; first | omega | exact Nat.le_refl _⟩, ⟨by (with_reducible repeat (first | refine blk_drewN ?_ _ | refine blk_drew ?_ | refine blk_alloc ?_ _)); exact BK220.out⟩, ⟨by repeat (first | (with_reducible first | exact HB.out | apply below_alloc | apply pw_below_drewN | apply below_drew1 | refine below_set ?_ GE220.out) | exact HB.out)⟩⟩
            · replace c16 := Bool.eq_false_iff.mpr c16
              subst c16
              have H1 : (crierlaw12_SgiWhom.j1 k1 a0 l1 a2 true t219 false true t215 t216 t217 t218) = some r := by rw [if_neg (show ¬ (false = true) by decide)] at H; exact H
              clear H
              have H := H1
              clear H1
              have H' := Aside0.mk H
              clear H
              go_wp2
              go_meet
              case rel => exact ⟨_, (true), (by first | rfl | (simp; done) | (simp [*]; done)), H', ⟨by have := HK1.out; first | omega | exact Nat.le_refl _⟩, ⟨by (with_reducible repeat (first | refine blk_drewN ?_ _ | refine blk_drew ?_ | refine blk_alloc ?_ _)); exact BK220.out⟩, ⟨by repeat (first | (with_reducible first | exact HB.out | apply below_alloc | apply pw_below_drewN | apply below_drew1 | refine below_set ?_ GE220.out) | exact HB.out)⟩⟩
          case rest =>
            clear HC15
            try clear c1
            try clear p2
            try clear q2
            try clear hx2
            try clear c5
            try clear p6
            try clear c7
            try clear c10
            try clear c11
            try clear c11b0
            try clear c12
            try clear c13
            try clear c13b0
            try clear c14
            try clear c14b0
            try clear c16
            try clear c17
            try clear c17b0
            try clear hcz10_0
            try clear hcz10_1
            try clear hcz10_2
            try clear hcz10_3
            try clear hfz10_0
            try clear hfz10_1
            try clear hfz10_2
            try clear hfz10_3
            try clear hx221_0
            try clear hx222_0
            try clear p2
            try clear p221
            try clear p222
            try clear q221
            try clear q222
            obtain ⟨kq, x54_14, rfl, HA, HJ14, BK220, HB⟩ := hcut
            cases kq with
            | zero => exact absurd HA.out (by simp [crierlaw12_SgiWhom.j1])
            | succ kj14 =>
              have H := HA.out
              clear HA
              simp only [crierlaw12_SgiWhom.j1] at H
              by_cases c18 : x54_14 = true
              · subst c18
                have H1 : (if true = true then (if x10_1 = true then (if t219 = 1 then (some (t215 == 0 && (!t216 && (t217 == 0 && (!t218))))) else (some false)) else (if t219 = 130 then (some (t215 == 0 && (!t216 && (t217 == 0 && (!t218))))) else (some false))) else (some false)) = some r := by first | (rw [if_pos rfl] at H; exact H) | (rw [if_pos trivial] at H; exact H)
                clear H
                have H := H1
                clear H1
                by_cases c19 : true = true
                · clear c19
                  have H1 : (if x10_1 = true then (if t219 = 1 then (some (t215 == 0 && (!t216 && (t217 == 0 && (!t218))))) else (some false)) else (if t219 = 130 then (some (t215 == 0 && (!t216 && (t217 == 0 && (!t218))))) else (some false))) = some r := by first | (rw [if_pos rfl] at H; exact H) | (rw [if_pos trivial] at H; exact H)
                  clear H
                  have H := H1
                  clear H1
                  by_cases c20 : x10_1 = true
                  · subst c20
                    have H1 : (if t219 = 1 then (some (t215 == 0 && (!t216 && (t217 == 0 && (!t218))))) else (some false)) = some r := by first | (rw [if_pos rfl] at H; exact H) | (rw [if_pos trivial] at H; exact H)
                    clear H
                    have H := H1
                    clear H1
                    by_cases c21 : t219 = 1
                    · rw [if_pos c21] at H
                      have c21b0 : (t219 == 1) = true := beq_iff_eq.mpr c21
                      have c21b1 : (t219 != 1) = false := bne_eq_false_iff_eq.mpr c21
                      clear c21
                      obtain rfl := Option.some.inj H
                      have hcz22_0 : wc.cell? ⟨gb220, 0, none⟩ = some (.int .i64 t215) := (blk_cell BK220.out 0).trans rfl
                      have hcz22_1 : wc.cell? ⟨gb220, 1, none⟩ = some (.bool t216) := (blk_cell BK220.out 1).trans rfl
                      have hcz22_2 : wc.cell? ⟨gb220, 2, none⟩ = some (.int .i64 t217) := (blk_cell BK220.out 2).trans rfl
                      have hcz22_3 : wc.cell? ⟨gb220, 3, none⟩ = some (.bool t218) := (blk_cell BK220.out 3).trans rfl
                      have hfz22_0 := blk_frozen BK220.out 0
                      have hfz22_1 := blk_frozen BK220.out 1
                      have hfz22_2 := blk_frozen BK220.out 2
                      have hfz22_3 := blk_frozen BK220.out 3
                      go_wp2
                      go_ret
                      exact ⟨by first | rfl | (simp [errW_none, errW_some] <;> rfl) | (simp [*, errW_none, errW_some] <;> rfl), by repeat (first | (with_reducible first | exact HB.out | apply below_alloc | apply pw_below_drewN | apply below_drew1 | refine below_set ?_ GE220.out) | exact HB.out)⟩
                    · rw [if_neg c21] at H
                      have c21b0 : (t219 == 1) = false := beq_eq_false_iff_ne.mpr c21
                      have c21b1 : (t219 != 1) = true := bne_iff_ne.mpr c21
                      obtain rfl := Option.some.inj H
                      exact absurd hT_.out (by simp)
                  · replace c20 := Bool.eq_false_iff.mpr c20
                    subst c20
                    have H1 : (if t219 = 130 then (some (t215 == 0 && (!t216 && (t217 == 0 && (!t218))))) else (some false)) = some r := by rw [if_neg (show ¬ (false = true) by decide)] at H; exact H
                    clear H
                    have H := H1
                    clear H1
                    by_cases c23 : t219 = 130
                    · rw [if_pos c23] at H
                      have c23b0 : (t219 == 130) = true := beq_iff_eq.mpr c23
                      have c23b1 : (t219 != 130) = false := bne_eq_false_iff_eq.mpr c23
                      clear c23
                      obtain rfl := Option.some.inj H
                      have hcz24_0 : wc.cell? ⟨gb220, 0, none⟩ = some (.int .i64 t215) := (blk_cell BK220.out 0).trans rfl
                      have hcz24_1 : wc.cell? ⟨gb220, 1, none⟩ = some (.bool t216) := (blk_cell BK220.out 1).trans rfl
                      have hcz24_2 : wc.cell? ⟨gb220, 2, none⟩ = some (.int .i64 t217) := (blk_cell BK220.out 2).trans rfl
                      have hcz24_3 : wc.cell? ⟨gb220, 3, none⟩ = some (.bool t218) := (blk_cell BK220.out 3).trans rfl
                      have hfz24_0 := blk_frozen BK220.out 0
                      have hfz24_1 := blk_frozen BK220.out 1
                      have hfz24_2 := blk_frozen BK220.out 2
                      have hfz24_3 := blk_frozen BK220.out 3
                      go_wp2
                      go_ret
                      exact ⟨by first | rfl | (simp [errW_none, errW_some] <;> rfl) | (simp [*, errW_none, errW_some] <;> rfl), by repeat (first | (with_reducible first | exact HB.out | apply below_alloc | apply pw_below_drewN | apply below_drew1 | refine below_set ?_ GE220.out) | exact HB.out)⟩
                    · rw [if_neg c23] at H
                      have c23b0 : (t219 == 130) = false := beq_eq_false_iff_ne.mpr c23
                      have c23b1 : (t219 != 130) = true := bne_iff_ne.mpr c23
                      obtain rfl := Option.some.inj H
                      exact absurd hT_.out (by simp)
                · exact absurd rfl c19
              · replace c18 := Bool.eq_false_iff.mpr c18
                subst c18
                have H1 : ((crierlaw12_to.f t215 t216 t217 t218 a2 8).bind fun t223 => (crierlaw12_SgiWhom.l1 kj14 a0 l1 true t219 t223 0 t215 t216 t217 t218)) = some r := by rw [if_neg (show ¬ (false = true) by decide)] at H; exact H
                clear H
                have H := H1
                clear H1
                replace H := Option.bind_eq_some_iff.mp H
                obtain ⟨t223, A250, H⟩ := H
                replace H : (crierlaw12_SgiWhom.l1 kj14 a0 l1 true t219 t223 0 t215 t216 t217 t218) = some r := H
                have A25 := Aside0.mk A250
                clear A250
                have H' := Aside0.mk H
                clear H
                have hcz26_0 : wc.cell? ⟨gb220, 0, none⟩ = some (.int .i64 t215) := (blk_cell BK220.out 0).trans rfl
                have hcz26_1 : wc.cell? ⟨gb220, 1, none⟩ = some (.bool t216) := (blk_cell BK220.out 1).trans rfl
                have hcz26_2 : wc.cell? ⟨gb220, 2, none⟩ = some (.int .i64 t217) := (blk_cell BK220.out 2).trans rfl
                have hcz26_3 : wc.cell? ⟨gb220, 3, none⟩ = some (.bool t218) := (blk_cell BK220.out 3).trans rfl
                have hfz26_0 := blk_frozen BK220.out 0
                have hfz26_1 := blk_frozen BK220.out 1
                have hfz26_2 := blk_frozen BK220.out 2
                have hfz26_3 := blk_frozen BK220.out 3
                go_wp2_with (first | ((with_reducible refine gate_callee (f := 15) rfl ?_); refine goesL_ (some 78) rfl rfl Try.func15 (by kernel_rfl) rfl #[.agg #[.int .i64 t215, .bool t216, .int .i64 t217, .bool t218], .int .i64 a2, .int .i64 8] rfl (by (try simp only [List.map_toArray, List.map_cons, List.map_nil]); first | done | rfl | (simp only [List.length_drop, List.length_take]; rfl)) ?_; (with_reducible refine (crierlaw12_to.calls t215 t216 t217 t218 a2 8 t223 _ A25.out).mono ?_); rintro e w27 ⟨v224, rfl, ho0, hb⟩; refine ⟨_, rfl, ?_⟩; have n0_ := Aside0.mk (Kd.R_lower ho0 (below_size (by repeat (first | (with_reducible first | exact HB.out | apply below_alloc | apply pw_below_drewN | apply below_drew1 | refine below_set ?_ GE220.out) | exact HB.out)))); have n1_ := Aside0.mk (blk_below (g := gb220) (o := .cells #[.int .i64 t215, .bool t216, .int .i64 t217, .bool t218] 24 (0, 0)) (by (with_reducible repeat (first | refine blk_drewN ?_ _ | refine blk_drew ?_ | refine blk_alloc ?_ _)); exact BK220.out) hb); have n2_ := Aside0.mk (below_step (by repeat (first | (with_reducible first | exact HB.out | apply below_alloc | apply pw_below_drewN | apply below_drew1 | refine below_set ?_ GE220.out) | exact HB.out)) hb); clear BK220; clear HB; have HO225 := n0_; have BK220 := n1_; have HB := n2_; clear n0_ n1_ n2_; (try clear hb); (try clear hb2); (try clear hk); (try clear hi); (try clear ho0)))
                go_loopg [13] kj14 (fun kq v13 w' => ∃ (x13_3 : Int), v13 = .int .i64 x13_3 ∧ Aside0 (crierlaw12_SgiWhom.l1 kq a0 l1 true t219 t223 x13_3 t215 t216 t217 t218 = some r) ∧ Aside0 (kq ≤ kj14) ∧ Aside0 (Kd.R (Kd.int .i64) 3 w' w.heap.size (fun _ => True) v224 t223) ∧ Aside0 (w'.heap[gb220]? = some (.cells #[.int .i64 t215, .bool t216, .int .i64 t217, .bool t218] 24 (0, 0))) ∧ Aside0 (Below w.heap.size w w'))
                case atStart => exact ⟨(0), (by first | rfl | (simp; done) | (simp [*]; done)), H', ⟨Nat.le_refl _⟩, ⟨by (with_reducible repeat (first | apply Kd.R_alloc | apply Kd.R_drewN | apply Kd.R_drew)); exact HO225.out⟩, ⟨by (with_reducible repeat (first | refine blk_drewN ?_ _ | refine blk_drew ?_ | refine blk_alloc ?_ _)); exact BK220.out⟩, ⟨by repeat (first | (with_reducible first | exact HB.out | apply below_alloc | apply pw_below_drewN | apply below_drew1 | refine below_set ?_ GE220.out) | exact HB.out)⟩⟩
                case round =>
                  clear H'
                  try clear c1
                  try clear c2
                  try clear p2
                  try clear q2
                  try clear hx2
                  try clear c5
                  try clear p6
                  try clear c7
                  try clear c10
                  try clear c11
                  try clear c11b0
                  try clear c12
                  try clear c13
                  try clear c13b0
                  try clear c14
                  try clear c14b0
                  try clear c15
                  try clear c16
                  try clear c17
                  try clear c17b0
                  try clear c18
                  try clear c19
                  try clear c20
                  try clear c21
                  try clear c21b0
                  try clear c21b1
                  try clear p22
                  try clear q22
                  try clear hx22
                  try clear c23
                  try clear c23b0
                  try clear c23b1
                  try clear hcz10_0
                  try clear hcz10_1
                  try clear hcz10_2
                  try clear hcz10_3
                  try clear hcz22_0
                  try clear hcz22_1
                  try clear hcz22_2
                  try clear hcz22_3
                  try clear hcz24_0
                  try clear hcz24_1
                  try clear hcz24_2
                  try clear hcz24_3
                  try clear hcz26_0
                  try clear hcz26_1
                  try clear hcz26_2
                  try clear hcz26_3
                  try clear hfz10_0
                  try clear hfz10_1
                  try clear hfz10_2
                  try clear hfz10_3
                  try clear hfz22_0
                  try clear hfz22_1
                  try clear hfz22_2
                  try clear hfz22_3
                  try clear hfz24_0
                  try clear hfz24_1
                  try clear hfz24_2
                  try clear hfz24_3
                  try clear hfz26_0
                  try clear hfz26_1
                  try clear hfz26_2
                  try clear hfz26_3
                  try clear hx221_0
                  try clear hx222_0
                  try clear p2
                  try clear p221
                  try clear p222
                  try clear p6
                  try clear q2
                  try clear q221
                  try clear q222
                  obtain ⟨x13_3, rfl, HA, HK3, HO_12, BK220, HB⟩ := hrel
                  cases gk with
                  | zero => exact absurd HA.out (by simp [crierlaw12_SgiWhom.l1])
                  | succ k3 =>
                    have H := HA.out
                    clear HA
                    simp only [crierlaw12_SgiWhom.l1] at H
                    by_cases c28 : x13_3 < (t223.length : Int)
                    · rw [if_pos c28] at H
                      have c28b0 : decide (x13_3 < (t223.length : Int)) = true := decide_eq_true c28
                      clear c28
                      by_cases c29 : 0 ≤ x13_3
                      · rw [if_pos c29] at H
                        have c29b0 : decide (0 ≤ x13_3) = true := decide_eq_true c29
                        clear c29
                        replace H := Option.bind_eq_some_iff.mp H
                        obtain ⟨t227, A300, H⟩ := H
                        replace H : (if t227 = true then (crierlaw12_SgiWhom.l1 k3 a0 l1 true t219 t223 (wrap64 (x13_3 + 1)) t215 t216 t217 t218) else (some false)) = some r := H
                        have A30 := Aside0.mk A300
                        clear A300
                        by_cases c31 : t227 = true
                        · subst c31
                          have H1 : (crierlaw12_SgiWhom.l1 k3 a0 l1 true t219 t223 (wrap64 (x13_3 + 1)) t215 t216 t217 t218) = some r := by first | (rw [if_pos rfl] at H; exact H) | (rw [if_pos trivial] at H; exact H)
                          clear H
                          have H := H1
                          clear H1
                          have H' := Aside0.mk H
                          clear H
                          obtain ⟨Ao32, co32, eo32⟩ := Kd.R_slice HO_12.out
                          subst eo32
                          have p226 : 0 ≤ (x13_3 : Int) := of_decide_eq_true (by first | (with_reducible assumption) | assumption)
                          have q226 : x13_3 < (t223.length : Int) := of_decide_eq_true (by first | (with_reducible assumption) | assumption)
                          obtain ⟨ad226, e226, hx226_0⟩ := Kd.at_int (Kd.R_reads' HO_12.out).2.2 x13_3 p226 q226
                          cases e226
                          replace p226 := eq_true p226
                          replace q226 := eq_true q226
                          go_wp2_with (first | ((with_reducible refine gate_callee (f := 17) rfl ?_); refine goesL_ (some 90) rfl rfl Try.func17 (by kernel_rfl) rfl #[.slice A1 l1.length c1, .int .i64 (rd t223 x13_3)] rfl (by (try simp only [List.map_toArray, List.map_cons, List.map_nil]); first | done | rfl | (simp only [List.length_drop, List.length_take]; rfl)) ?_; (with_reducible refine (crierref01_Has.calls k3 _ _ l1 (rd t223 x13_3) true _ ?side1 ?side2 A30.out).mono ?_); (case side1 => repeat (first | exact (Kd.C_below HR1.out HB.out) | (with_reducible refine Kd.C_alloc ?_ _) | (with_reducible refine Kd.C_drewN ?_ _) | (with_reducible refine Kd.C_drew ?_))); (case side2 => exact HC1.out); rintro e w' ⟨rfl, ⟨nd, rfl⟩⟩; refine ⟨_, rfl, ?_⟩))
                          go_roundg k3
                          case measure => have := HK1.out; have := HJ14.out; have := HK3.out; omega
                          case rel => exact ⟨(wrap64 (x13_3 + 1)), (by first | rfl | (simp; done) | (simp [*]; done)), H', ⟨by have := HK1.out; have := HJ14.out; have := HK3.out; omega⟩, ⟨by (with_reducible repeat (first | apply Kd.R_alloc | apply Kd.R_drewN | apply Kd.R_drew)); exact HO_12.out⟩, ⟨by (with_reducible repeat (first | refine blk_drewN ?_ _ | refine blk_drew ?_ | refine blk_alloc ?_ _)); exact BK220.out⟩, ⟨by repeat (first | (with_reducible first | exact HB.out | apply below_alloc | apply pw_below_drewN | apply below_drew1 | refine below_set ?_ GE220.out) | exact HB.out)⟩⟩
                        · replace c31 := Bool.eq_false_iff.mpr c31
                          subst c31
                          have H1 : (some false) = some r := by rw [if_neg (show ¬ (false = true) by decide)] at H; exact H
                          clear H
                          have H := H1
                          clear H1
                          obtain rfl := Option.some.inj H
                          exact absurd hT_.out (by simp)
                      · rw [if_neg c29] at H
                        exact absurd H (by simp)
                    · rw [if_neg c28] at H
                      have c28b0 : decide (x13_3 < (t223.length : Int)) = false := decide_eq_false c28
                      clear c28
                      have H' := Aside0.mk H
                      clear H
                      obtain ⟨Ao34, co34, eo34⟩ := Kd.R_slice HO_12.out
                      subst eo34
                      go_wp2
                      go_loopg [14] k3 (fun kq v14 w' => ∃ (x14_4 : Int), v14 = .int .i64 x14_4 ∧ Aside0 (crierlaw12_SgiWhom.l2 kq a0 l1 true t219 t223 x14_4 t215 t216 t217 t218 = some r) ∧ Aside0 (kq ≤ k3) ∧ Aside0 (Kd.R (Kd.int .i64) 3 w' w.heap.size (fun _ => True) (.slice Ao34 t223.length co34) t223) ∧ Aside0 (w'.heap[gb220]? = some (.cells #[.int .i64 t215, .bool t216, .int .i64 t217, .bool t218] 24 (0, 0))) ∧ Aside0 (Below w.heap.size w w'))
                      case atStart => exact ⟨(0), (by first | rfl | (simp; done) | (simp [*]; done)), H', ⟨Nat.le_refl _⟩, ⟨by (with_reducible repeat (first | apply Kd.R_alloc | apply Kd.R_drewN | apply Kd.R_drew)); exact HO_12.out⟩, ⟨by (with_reducible repeat (first | refine blk_drewN ?_ _ | refine blk_drew ?_ | refine blk_alloc ?_ _)); exact BK220.out⟩, ⟨by repeat (first | (with_reducible first | exact HB.out | apply below_alloc | apply pw_below_drewN | apply below_drew1 | refine below_set ?_ GE220.out) | exact HB.out)⟩⟩
                      case round =>
                        clear H'
                        try clear c1
                        try clear c2
                        try clear p2
                        try clear q2
                        try clear hx2
                        try clear c3
                        try clear c5
                        try clear p6
                        try clear c7
                        try clear c10
                        try clear c11
                        try clear c11b0
                        try clear c12
                        try clear c13
                        try clear c13b0
                        try clear c14
                        try clear c14b0
                        try clear c15
                        try clear c16
                        try clear c17
                        try clear c17b0
                        try clear c18
                        try clear c19
                        try clear c20
                        try clear c21
                        try clear c21b0
                        try clear c21b1
                        try clear p22
                        try clear q22
                        try clear hx22
                        try clear c23
                        try clear c23b0
                        try clear c23b1
                        try clear c28
                        try clear c28b0
                        try clear c29
                        try clear c29b0
                        try clear c31
                        try clear hcz10_0
                        try clear hcz10_1
                        try clear hcz10_2
                        try clear hcz10_3
                        try clear hcz22_0
                        try clear hcz22_1
                        try clear hcz22_2
                        try clear hcz22_3
                        try clear hcz24_0
                        try clear hcz24_1
                        try clear hcz24_2
                        try clear hcz24_3
                        try clear hcz26_0
                        try clear hcz26_1
                        try clear hcz26_2
                        try clear hcz26_3
                        try clear hfz10_0
                        try clear hfz10_1
                        try clear hfz10_2
                        try clear hfz10_3
                        try clear hfz22_0
                        try clear hfz22_1
                        try clear hfz22_2
                        try clear hfz22_3
                        try clear hfz24_0
                        try clear hfz24_1
                        try clear hfz24_2
                        try clear hfz24_3
                        try clear hfz26_0
                        try clear hfz26_1
                        try clear hfz26_2
                        try clear hfz26_3
                        try clear hx221_0
                        try clear hx222_0
                        try clear hx226_0
                        try clear p2
                        try clear p22
                        try clear p221
                        try clear p222
                        try clear p226
                        try clear p6
                        try clear q2
                        try clear q22
                        try clear q221
                        try clear q222
                        try clear q226
                        obtain ⟨x14_4, rfl, HA, HK4, HO_12, BK220, HB⟩ := hrel
                        cases gk with
                        | zero => exact absurd HA.out (by simp [crierlaw12_SgiWhom.l2])
                        | succ k4 =>
                          have H := HA.out
                          clear HA
                          simp only [crierlaw12_SgiWhom.l2] at H
                          by_cases c35 : x14_4 < (l1.length : Int)
                          · rw [if_pos c35] at H
                            have c35b0 : decide (x14_4 < (l1.length : Int)) = true := decide_eq_true c35
                            clear c35
                            by_cases c36 : 0 ≤ x14_4
                            · rw [if_pos c36] at H
                              have c36b0 : decide (0 ≤ x14_4) = true := decide_eq_true c36
                              clear c36
                              replace H := Option.bind_eq_some_iff.mp H
                              obtain ⟨t229, A370, H⟩ := H
                              replace H : (if t229 = true then (crierlaw12_SgiWhom.l2 k4 a0 l1 true t219 t223 (wrap64 (x14_4 + 1)) t215 t216 t217 t218) else (some false)) = some r := H
                              have A37 := Aside0.mk A370
                              clear A370
                              by_cases c38 : t229 = true
                              · subst c38
                                have H1 : (crierlaw12_SgiWhom.l2 k4 a0 l1 true t219 t223 (wrap64 (x14_4 + 1)) t215 t216 t217 t218) = some r := by first | (rw [if_pos rfl] at H; exact H) | (rw [if_pos trivial] at H; exact H)
                                clear H
                                have H := H1
                                clear H1
                                have H' := Aside0.mk H
                                clear H
                                have p228 : 0 ≤ (x14_4 : Int) := of_decide_eq_true (by first | (with_reducible assumption) | assumption)
                                have q228 : x14_4 < (l1.length : Int) := of_decide_eq_true (by first | (with_reducible assumption) | assumption)
                                obtain ⟨ad228, e228, hx228_0⟩ := Kd.at_int HR1.out x14_4 p228 q228
                                cases e228
                                replace hx228_0 := (HB.out.cell (World.block_lt_of_cell? w _ hx228_0)).trans hx228_0
                                replace p228 := eq_true p228
                                replace q228 := eq_true q228
                                go_wp2_with (first | ((with_reducible refine gate_callee (f := 17) rfl ?_); refine goesL_ (some 103) rfl rfl Try.func17 (by kernel_rfl) rfl #[.slice Ao34 t223.length co34, .int .i64 (rd l1 x14_4)] rfl (by (try simp only [List.map_toArray, List.map_cons, List.map_nil]); first | done | rfl | (simp only [List.length_drop, List.length_take]; rfl)) ?_; (with_reducible refine (crierref01_Has.calls k4 _ _ t223 (rd l1 x14_4) true _ ?side1 ?side2 A37.out).mono ?_); (case side1 => repeat (first | exact (Kd.R_reads' HO_12.out).2.2 | (with_reducible refine Kd.C_alloc ?_ _) | (with_reducible refine Kd.C_drewN ?_ _) | (with_reducible refine Kd.C_drew ?_))); (case side2 => exact (Kd.R_reads' HO_12.out).2.1); rintro e w' ⟨rfl, ⟨nd, rfl⟩⟩; refine ⟨_, rfl, ?_⟩))
                                go_roundg k4
                                case measure => have := HK1.out; have := HJ14.out; have := HK3.out; have := HK4.out; omega
                                case rel => exact ⟨(wrap64 (x14_4 + 1)), (by first | rfl | (simp; done) | (simp [*]; done)), H', ⟨by have := HK1.out; have := HJ14.out; have := HK3.out; have := HK4.out; omega⟩, ⟨by (with_reducible repeat (first | apply Kd.R_alloc | apply Kd.R_drewN | apply Kd.R_drew)); exact HO_12.out⟩, ⟨by (with_reducible repeat (first | refine blk_drewN ?_ _ | refine blk_drew ?_ | refine blk_alloc ?_ _)); exact BK220.out⟩, ⟨by repeat (first | (with_reducible first | exact HB.out | apply below_alloc | apply pw_below_drewN | apply below_drew1 | refine below_set ?_ GE220.out) | exact HB.out)⟩⟩
                              · replace c38 := Bool.eq_false_iff.mpr c38
                                subst c38
                                have H1 : (some false) = some r := by rw [if_neg (show ¬ (false = true) by decide)] at H; exact H
                                clear H
                                have H := H1
                                clear H1
                                obtain rfl := Option.some.inj H
                                exact absurd hT_.out (by simp)
                            · rw [if_neg c36] at H
                              exact absurd H (by simp)
                          · rw [if_neg c35] at H
                            have c35b0 : decide (x14_4 < (l1.length : Int)) = false := decide_eq_false c35
                            clear c35
                            by_cases c39 : true = true
                            · clear c39
                              have H1 : (if t219 = 0 then (if t215 = a0 then ((sgi_Spread.f t215 t216 t217 t218).bind fun t230 => (some (t230 == (t223.length : Int)))) else (some false)) else (some false)) = some r := by first | (rw [if_pos rfl] at H; exact H) | (rw [if_pos trivial] at H; exact H)
                              clear H
                              have H := H1
                              clear H1
                              by_cases c40 : t219 = 0
                              · rw [if_pos c40] at H
                                have c40b0 : (t219 == 0) = true := beq_iff_eq.mpr c40
                                have c40b1 : (t219 != 0) = false := bne_eq_false_iff_eq.mpr c40
                                clear c40
                                by_cases c41 : t215 = a0
                                · rw [if_pos c41] at H
                                  have c41b0 : (t215 == a0) = true := beq_iff_eq.mpr c41
                                  have c41b1 : (t215 != a0) = false := bne_eq_false_iff_eq.mpr c41
                                  clear c41
                                  replace H := Option.bind_eq_some_iff.mp H
                                  obtain ⟨t230, A420, H⟩ := H
                                  replace H : (some (t230 == (t223.length : Int))) = some r := H
                                  have A42 := Aside0.mk A420
                                  clear A420
                                  obtain rfl := Option.some.inj H
                                  have hcz43_0 : wr.cell? ⟨gb220, 0, none⟩ = some (.int .i64 t215) := (blk_cell BK220.out 0).trans rfl
                                  have hcz43_1 : wr.cell? ⟨gb220, 1, none⟩ = some (.bool t216) := (blk_cell BK220.out 1).trans rfl
                                  have hcz43_2 : wr.cell? ⟨gb220, 2, none⟩ = some (.int .i64 t217) := (blk_cell BK220.out 2).trans rfl
                                  have hcz43_3 : wr.cell? ⟨gb220, 3, none⟩ = some (.bool t218) := (blk_cell BK220.out 3).trans rfl
                                  have hfz43_0 := blk_frozen BK220.out 0
                                  have hfz43_1 := blk_frozen BK220.out 1
                                  have hfz43_2 := blk_frozen BK220.out 2
                                  have hfz43_3 := blk_frozen BK220.out 3
                                  go_wp2_with (first | (go_at_call 20; (with_reducible refine (sgi_Spread.calls t215 t216 t217 t218 t230 _ A42.out).mono ?_); rintro e w44 ⟨rfl, hb⟩; have n0_ := Aside0.mk (Kd.R_below (by (with_reducible repeat (first | apply Kd.R_alloc | apply Kd.R_drewN | apply Kd.R_drew)); exact HO_12.out) hb); have n1_ := Aside0.mk (blk_below (g := gb220) (o := .cells #[.int .i64 t215, .bool t216, .int .i64 t217, .bool t218] 24 (0, 0)) (by (with_reducible repeat (first | refine blk_drewN ?_ _ | refine blk_drew ?_ | refine blk_alloc ?_ _)); exact BK220.out) hb); have n2_ := Aside0.mk (below_step (by repeat (first | (with_reducible first | exact HB.out | apply below_alloc | apply pw_below_drewN | apply below_drew1 | refine below_set ?_ GE220.out) | exact HB.out)) hb); clear HO_12; clear BK220; clear HB; have HO_12 := n0_; have BK220 := n1_; have HB := n2_; clear n0_ n1_ n2_; (try clear hb); (try clear hb2); (try clear hk); (try clear hi)))
                                  go_ret
                                  exact ⟨by first | rfl | (simp [errW_none, errW_some] <;> rfl) | (simp [*, errW_none, errW_some] <;> rfl), by repeat (first | (with_reducible first | exact HB.out | apply below_alloc | apply pw_below_drewN | apply below_drew1 | refine below_set ?_ GE220.out) | exact HB.out)⟩
                                · rw [if_neg c41] at H
                                  have c41b0 : (t215 == a0) = false := beq_eq_false_iff_ne.mpr c41
                                  have c41b1 : (t215 != a0) = true := bne_iff_ne.mpr c41
                                  obtain rfl := Option.some.inj H
                                  exact absurd hT_.out (by simp)
                              · rw [if_neg c40] at H
                                have c40b0 : (t219 == 0) = false := beq_eq_false_iff_ne.mpr c40
                                have c40b1 : (t219 != 0) = true := bne_iff_ne.mpr c40
                                obtain rfl := Option.some.inj H
                                exact absurd hT_.out (by simp)
                            · exact absurd rfl c39
  · replace c5 := Bool.eq_false_iff.mpr c5
    subst c5
    have H1 : (some false) = some r := by rw [if_neg (show ¬ (false = true) by decide)] at H; exact H
    clear H
    have H := H1
    clear H1
    obtain rfl := Option.some.inj H
    exact absurd hT_.out (by simp)

/-- THE ONE PURE STATEMENT of crierlaw12_SgiWhom: yours. -/
def crierlaw12_SgiWhom.Pure : Prop := ∀ (a0 : Int) (l1 : List Int) (a2 : Int), (Lit.int .i64 a0).wf = true → l1.length ≤ maxLen → l1.length * 8 ≤ 140737488351232 → (∀ x ∈ l1, (Lit.int .i64 x).wf = true) → (Lit.int .i64 a2).wf = true → ∃ k, crierlaw12_SgiWhom.f k a0 l1 a2 = some true
theorem crierlaw12_SgiWhom.walk (P : crierlaw12_SgiWhom.Pure) (a0 : Int) (a1 : Option Addr) (len1 cap1 : Nat) (z1 : List Int) (a2 : Int) (w : World) (w0 : (Lit.int .i64 a0).wf = true) (w1 : (a1 = none ∧ len1 = 0 ∧ cap1 = 0 ∧ z1 = []) ∨ ∃ x, a1 = some x ∧ len1 ≤ cap1 ∧ cap1 ≤ maxLen ∧ z1.length = cap1 ∧ (∀ i, i < z1.length → w.cell? (x.add i) = some (.int .i64 (z1.getD i 0))) ∧ ∀ n ∈ z1, (Lit.int .i64 n).wf = true) (y1 : len1 * 8 ≤ 140737488351232) (w2 : (Lit.int .i64 a2).wf = true) :
    Calls Try.prog 7 #[.int .i64 a0, .slice a1 len1 cap1, .int .i64 a2] w fun e w' => e = .returned (.bool true) ∧ Below w.heap.size w w' := by
  obtain ⟨l1, rfl, hr1, hm1, hw1, hc1⟩ := ReadsInt.ofRowC w1
  obtain ⟨k, h⟩ := P a0 l1 a2 w0 hm1 y1 hw1 w2
  refine (crierlaw12_SgiWhom.calls k a0 _ _ l1 a2 true w (Kd.C_of_reads (d := (0 : Int)) (h1 := fun _ => rfl) hr1) hc1 h (Aside0.mk rfl)).mono ?_
  rintro e w' ⟨rfl, hd⟩
  exact ⟨rfl, hd⟩

end Go.Proofs.Ytfenchaiflfobaa.IAll
