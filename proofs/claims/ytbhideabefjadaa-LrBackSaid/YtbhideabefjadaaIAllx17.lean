-- Written by the program wip/gen/inj.py of this repository, out of the translation, for this claim. Not trusted: Lean checks it.
import Derived.Test.YtbhideabefjadaaIAllx0
import Derived.Test.YtbhideabefjadaaIAllx1
import Derived.Test.YtbhideabefjadaaIAllx3
import Derived.Test.YtbhideabefjadaaIAllx5
import Derived.Test.YtbhideabefjadaaIAllx7
import Derived.Test.YtbhideabefjadaaIAllx14
namespace Go.Proofs.Ytbhideabefjadaa.IAll
open Go.RowKit Go.Proofs.YtbhideabefjadaaW.PrintWords Go.Proofs.YtbhideabefjadaaW.PrintLast Go.Proofs.YtbhideabefjadaaW.PrintMore
attribute [local go_sem] max2_int min2_int max_two min_two max_three min_three max_four min_four   -- for this text's walks alone
set_option linter.unusedVariables false
set_option linter.unusedSimpArgs false

attribute [local go_sem high] eqA24
/-! ### crierlaw20_LrBack: function 7 -/
def crierlaw20_LrBack.j0 : Nat → Bool → Int → Int → Int → Int → Bool → Int → Bool → Option (Bool)
  | 0, _, _, _, _, _, _, _, _ => none
  | k + 1, x5, x207000, x207001, x207002, x207003, x207004, x207005, x207006 => (lr_Encode.f k x207000 x207001 x207002 x207003 x207004 x207005 x207006).bind fun bt220 => (if bt220.2 = 0 then ((lr_Decode.f k bt220.1).bind fun bt222 => (if x5 = true then (if (bt222.1 == x207000 && (bt222.2.1 == x207001 && (bt222.2.2.1 == x207002 && (bt222.2.2.2.1 == x207003 && (bt222.2.2.2.2.1 == x207004 && (bt222.2.2.2.2.2.1 == x207005 && (bt222.2.2.2.2.2.2.1 == x207006))))))) = true then (some (bt222.2.2.2.2.2.2.2 == 0)) else (some false)) else (some false))) else (if x5 = true then (if bt220.1 = 0 then ((lr_May.f k x207000 x207001 x207002 x207003 x207004 x207005 x207006).bind fun t231 => (some (bt220.2 == t231))) else (some false)) else (some false)))
def crierlaw20_LrBack.f (k : Nat) (a0_0 : Int) (a0_1 : Int) (a0_2 : Int) (a0_3 : Int) (a0_4 : Bool) (a0_5 : Int) (a0_6 : Bool) (a1 : Int) : Option (Bool) := (crierlaw20_awake.f k).bind fun t207 => (if t207 = true then ((lr_Decode.f k a1).bind fun bt208 => (if bt208.2.2.2.2.2.2.2 = 0 then ((lr_Encode.f k bt208.1 bt208.2.1 bt208.2.2.1 bt208.2.2.2.1 bt208.2.2.2.2.1 bt208.2.2.2.2.2.1 bt208.2.2.2.2.2.2.1).bind fun bt217 => (if bt217.2 = 0 then (if bt217.1 = a1 then ((lr_May.f k bt208.1 bt208.2.1 bt208.2.2.1 bt208.2.2.2.1 bt208.2.2.2.2.1 bt208.2.2.2.2.2.1 bt208.2.2.2.2.2.2.1).bind fun t219 => (if t219 = 0 then (crierlaw20_LrBack.j0 k t207 a0_0 a0_1 a0_2 a0_3 a0_4 a0_5 a0_6) else (some false))) else (some false)) else (some false))) else (crierlaw20_LrBack.j0 k t207 a0_0 a0_1 a0_2 a0_3 a0_4 a0_5 a0_6))) else (some false))
theorem crierlaw20_LrBack.mono_l : ∀ k, (∀ y0 y1 y2 y3 y4 y5 y6 y7, LeO (crierlaw20_LrBack.j0 k y0 y1 y2 y3 y4 y5 y6 y7) (crierlaw20_LrBack.j0 (k + 1) y0 y1 y2 y3 y4 y5 y6 y7))
  | 0 => fun _ _ _ _ _ _ _ _ r h => by simp [crierlaw20_LrBack.j0] at h
  | k + 1 => by
    have ih0 := crierlaw20_LrBack.mono_l k
    · intro y0 y1 y2 y3 y4 y5 y6 y7
      unfold crierlaw20_LrBack.j0
      repeat' first
      | (with_reducible exact ih0 _ _ _ _ _ _ _ _)
      | (with_reducible exact crierlaw20_awake.mono _)
      | (with_reducible exact lr_Decode.mono _ _)
      | (with_reducible exact lr_Encode.mono _ _ _ _ _ _ _ _)
      | (with_reducible exact lr_May.mono _ _ _ _ _ _ _ _)
      | (with_reducible exact LeO.refl _)
      | (with_reducible exact LeO.none _)
      | (with_reducible refine LeO.ite ?_ ?_)
      | (with_reducible refine LeO.bind ?_ (fun _ => ?_))
      | exact ih0 _ _ _ _ _ _ _ _
      | exact crierlaw20_awake.mono _
      | exact lr_Decode.mono _ _
      | exact lr_Encode.mono _ _ _ _ _ _ _ _
      | exact lr_May.mono _ _ _ _ _ _ _ _
      | exact LeO.none _
      | refine LeO.ite ?_ ?_
      | refine LeO.bind ?_ (fun _ => ?_)
theorem crierlaw20_LrBack.mono : ∀ a0 a1 a2 a3 a4 a5 a6 a7 k, LeO (crierlaw20_LrBack.f k a0 a1 a2 a3 a4 a5 a6 a7) (crierlaw20_LrBack.f (k + 1) a0 a1 a2 a3 a4 a5 a6 a7) := by
  intro a0 a1 a2 a3 a4 a5 a6 a7 k
  have ih0 := crierlaw20_LrBack.mono_l k
  unfold crierlaw20_LrBack.f
  repeat' first
      | (with_reducible exact ih0 _ _ _ _ _ _ _ _)
      | (with_reducible exact crierlaw20_awake.mono _)
      | (with_reducible exact lr_Decode.mono _ _)
      | (with_reducible exact lr_Encode.mono _ _ _ _ _ _ _ _)
      | (with_reducible exact lr_May.mono _ _ _ _ _ _ _ _)
      | (with_reducible exact LeO.refl _)
      | (with_reducible exact LeO.none _)
      | (with_reducible refine LeO.ite ?_ ?_)
      | (with_reducible refine LeO.bind ?_ (fun _ => ?_))
      | exact ih0 _ _ _ _ _ _ _ _
      | exact crierlaw20_awake.mono _
      | exact lr_Decode.mono _ _
      | exact lr_Encode.mono _ _ _ _ _ _ _ _
      | exact lr_May.mono _ _ _ _ _ _ _ _
      | exact LeO.none _
      | refine LeO.ite ?_ ?_
      | refine LeO.bind ?_ (fun _ => ?_)
set_option maxHeartbeats 8000000 in
set_option maxRecDepth 100000 in
theorem crierlaw20_LrBack.calls (k : Nat) (a0_0 : Int) (a0_1 : Int) (a0_2 : Int) (a0_3 : Int) (a0_4 : Bool) (a0_5 : Int) (a0_6 : Bool) (a1 : Int) (r : Bool) (w : World) (h : crierlaw20_LrBack.f k a0_0 a0_1 a0_2 a0_3 a0_4 a0_5 a0_6 a1 = some r) (hT_ : Aside0 (r = true)) :
    Calls Try.prog 7 #[.agg #[.int .i64 a0_0, .int .i64 a0_1, .int .i64 a0_2, .int .i64 a0_3, .bool a0_4, .int .i64 a0_5, .bool a0_6], .int .u64 a1] w fun e w' => e = .returned (.bool r) ∧ Below w.heap.size w w' := by
  have hu24 := Try.underlying24
  have HB := Aside0.mk (Below.refl w.heap.size w)
  have H : ((crierlaw20_awake.f k).bind fun t207 => (if t207 = true then ((lr_Decode.f k a1).bind fun bt208 => (if bt208.2.2.2.2.2.2.2 = 0 then ((lr_Encode.f k bt208.1 bt208.2.1 bt208.2.2.1 bt208.2.2.2.1 bt208.2.2.2.2.1 bt208.2.2.2.2.2.1 bt208.2.2.2.2.2.2.1).bind fun bt217 => (if bt217.2 = 0 then (if bt217.1 = a1 then ((lr_May.f k bt208.1 bt208.2.1 bt208.2.2.1 bt208.2.2.2.1 bt208.2.2.2.2.1 bt208.2.2.2.2.2.1 bt208.2.2.2.2.2.2.1).bind fun t219 => (if t219 = 0 then (crierlaw20_LrBack.j0 k t207 a0_0 a0_1 a0_2 a0_3 a0_4 a0_5 a0_6) else (some false))) else (some false)) else (some false))) else (crierlaw20_LrBack.j0 k t207 a0_0 a0_1 a0_2 a0_3 a0_4 a0_5 a0_6))) else (some false))) = some r := h
  clear h
  replace H := Option.bind_eq_some_iff.mp H
  obtain ⟨t207, A30, H⟩ := H
  replace H : (if t207 = true then ((lr_Decode.f k a1).bind fun bt208 => (if bt208.2.2.2.2.2.2.2 = 0 then ((lr_Encode.f k bt208.1 bt208.2.1 bt208.2.2.1 bt208.2.2.2.1 bt208.2.2.2.2.1 bt208.2.2.2.2.2.1 bt208.2.2.2.2.2.2.1).bind fun bt217 => (if bt217.2 = 0 then (if bt217.1 = a1 then ((lr_May.f k bt208.1 bt208.2.1 bt208.2.2.1 bt208.2.2.2.1 bt208.2.2.2.2.1 bt208.2.2.2.2.2.1 bt208.2.2.2.2.2.2.1).bind fun t219 => (if t219 = 0 then (crierlaw20_LrBack.j0 k t207 a0_0 a0_1 a0_2 a0_3 a0_4 a0_5 a0_6) else (some false))) else (some false)) else (some false))) else (crierlaw20_LrBack.j0 k t207 a0_0 a0_1 a0_2 a0_3 a0_4 a0_5 a0_6))) else (some false)) = some r := H
  have A3 := Aside0.mk A30
  clear A30
  by_cases c4 : t207 = true
  · subst c4
    have H1 : ((lr_Decode.f k a1).bind fun bt208 => (if bt208.2.2.2.2.2.2.2 = 0 then ((lr_Encode.f k bt208.1 bt208.2.1 bt208.2.2.1 bt208.2.2.2.1 bt208.2.2.2.2.1 bt208.2.2.2.2.2.1 bt208.2.2.2.2.2.2.1).bind fun bt217 => (if bt217.2 = 0 then (if bt217.1 = a1 then ((lr_May.f k bt208.1 bt208.2.1 bt208.2.2.1 bt208.2.2.2.1 bt208.2.2.2.2.1 bt208.2.2.2.2.2.1 bt208.2.2.2.2.2.2.1).bind fun t219 => (if t219 = 0 then (crierlaw20_LrBack.j0 k true a0_0 a0_1 a0_2 a0_3 a0_4 a0_5 a0_6) else (some false))) else (some false)) else (some false))) else (crierlaw20_LrBack.j0 k true a0_0 a0_1 a0_2 a0_3 a0_4 a0_5 a0_6))) = some r := by first | (rw [if_pos rfl] at H; exact H) | (rw [if_pos trivial] at H; exact H)
    clear H
    have H := H1
    clear H1
    replace H := Option.bind_eq_some_iff.mp H
    obtain ⟨⟨t208, t209, t210, t211, t212, t213, t214, t215⟩, A50, H⟩ := H
    replace H : (if t215 = 0 then ((lr_Encode.f k t208 t209 t210 t211 t212 t213 t214).bind fun bt217 => (if bt217.2 = 0 then (if bt217.1 = a1 then ((lr_May.f k t208 t209 t210 t211 t212 t213 t214).bind fun t219 => (if t219 = 0 then (crierlaw20_LrBack.j0 k true a0_0 a0_1 a0_2 a0_3 a0_4 a0_5 a0_6) else (some false))) else (some false)) else (some false))) else (crierlaw20_LrBack.j0 k true a0_0 a0_1 a0_2 a0_3 a0_4 a0_5 a0_6)) = some r := H
    have A5 := Aside0.mk A50
    clear A50
    have HC6 := Aside0.mk H
    clear H
    go_enter Try.func7, Try.ntmps7
    go_upto_if 23 with (first | ((with_reducible refine gate_dst (N := 2) rfl ?_); refine box_event ?hg (N := 2) ?hd (cs := #[.int .i64 a0_0, .int .i64 a0_1, .int .i64 a0_2, .int .i64 a0_3, .bool a0_4, .int .i64 a0_5, .bool a0_6]) (t := 24) ?hr ?_; (case hd => rfl); (case hg => rfl); (case hr => first | (go_simp; done) | (go_simp; rfl)); intro gb206 hg w7 hbox hb; have n0_ := Aside0.mk (below_step (by repeat (first | (with_reducible first | exact HB.out | apply below_alloc | apply pw_below_drewN | apply below_drew1) | exact HB.out)) hb); have n1_ := Aside0.mk (hbox); have n2_ := Aside0.mk ((by rw [hg]; exact (below_size (by repeat (first | (with_reducible first | exact HB.out | apply below_alloc | apply pw_below_drewN | apply below_drew1) | exact HB.out))) : w.heap.size ≤ gb206)); have n3_ := Aside0.mk ((by rw [hg]; exact (below_size (by repeat (first | (with_reducible first | exact HB.out | apply below_alloc | apply pw_below_drewN | apply below_drew1) | exact HB.out))) : w.heap.size ≤ gb206)); clear HB; have HB := n0_; have BK206 := n1_; have GW206 := n2_; have GE206 := n3_; clear n0_ n1_ n2_ n3_; clear hb hbox hg) | ((with_reducible refine gate_callee (f := 10) rfl ?_); refine goesL_ (some 14) rfl rfl Try.func10 (by kernel_rfl) rfl #[] rfl (by (try simp only [List.map_toArray, List.map_cons, List.map_nil]); first | done | rfl | (simp only [List.length_drop, List.length_take]; rfl)) ?_; (with_reducible refine (crierlaw20_awake.calls k  true _ A3.out).mono ?_); rintro e w8 ⟨rfl, hb⟩; refine ⟨_, rfl, ?_⟩; have n0_ := Aside0.mk (blk_below (g := gb206) (o := .cells #[.int .i64 a0_0, .int .i64 a0_1, .int .i64 a0_2, .int .i64 a0_3, .bool a0_4, .int .i64 a0_5, .bool a0_6] 24 (0, 0)) (by (with_reducible repeat (first | refine blk_drewN ?_ _ | refine blk_drew ?_ | refine blk_alloc ?_ _)); exact BK206.out) hb); have n1_ := Aside0.mk (below_step (by repeat (first | (with_reducible first | exact HB.out | apply below_alloc | apply pw_below_drewN | apply below_drew1 | refine below_set ?_ GE206.out) | exact HB.out)) hb); clear BK206; clear HB; have BK206 := n0_; have HB := n1_; clear n0_ n1_; (try clear hb); (try clear hb2); (try clear hk); (try clear hi)) | ((with_reducible refine gate_callee (f := 17) rfl ?_); refine goesL_ (some 19) rfl rfl Try.func17 (by kernel_rfl) rfl #[.int .u64 a1] rfl (by (try simp only [List.map_toArray, List.map_cons, List.map_nil]); first | done | rfl | (simp only [List.length_drop, List.length_take]; rfl)) ?_; (with_reducible refine (lr_Decode.calls k a1 t208 t209 t210 t211 t212 t213 t214 t215 _ A5.out).mono ?_); rintro e w9 ⟨rfl, hb⟩; refine ⟨_, rfl, ?_⟩; have n0_ := Aside0.mk (blk_below (g := gb206) (o := .cells #[.int .i64 a0_0, .int .i64 a0_1, .int .i64 a0_2, .int .i64 a0_3, .bool a0_4, .int .i64 a0_5, .bool a0_6] 24 (0, 0)) (by (with_reducible repeat (first | refine blk_drewN ?_ _ | refine blk_drew ?_ | refine blk_alloc ?_ _)); exact BK206.out) hb); have n1_ := Aside0.mk (below_step (by repeat (first | (with_reducible first | exact HB.out | apply below_alloc | apply pw_below_drewN | apply below_drew1 | refine below_set ?_ GE206.out) | exact HB.out)) hb); clear BK206; clear HB; have BK206 := n0_; have HB := n1_; clear n0_ n1_; (try clear hb); (try clear hb2); (try clear hk); (try clear hi)) | ((with_reducible refine gate_dst (N := 6) rfl ?_); refine box_event ?hg (N := 6) ?hd (cs := #[.int .i64 0, .int .i64 0, .int .i64 0, .int .i64 0, .bool false, .int .i64 0, .bool false]) (t := 24) ?hr ?_; (case hd => rfl); (case hg => rfl); (case hr => first | (go_simp; done) | (go_simp; rfl)); intro gb216 hg w10 hbox hb; have n0_ := Aside0.mk (blk_below (g := gb206) (o := .cells #[.int .i64 a0_0, .int .i64 a0_1, .int .i64 a0_2, .int .i64 a0_3, .bool a0_4, .int .i64 a0_5, .bool a0_6] 24 (0, 0)) (by (with_reducible repeat (first | refine blk_drewN ?_ _ | refine blk_drew ?_ | refine blk_alloc ?_ _)); exact BK206.out) hb); have n1_ := Aside0.mk (below_step (by repeat (first | (with_reducible first | exact HB.out | apply below_alloc | apply pw_below_drewN | apply below_drew1 | refine below_set ?_ GE206.out) | exact HB.out)) hb); have n2_ := Aside0.mk (hbox); have n3_ := Aside0.mk ((by rw [hg]; exact (below_size (by repeat (first | (with_reducible first | exact HB.out | apply below_alloc | apply pw_below_drewN | apply below_drew1 | refine below_set ?_ GE206.out) | exact HB.out))) : w.heap.size ≤ gb216)); have n4_ := Aside0.mk ((by rw [hg]; exact (below_size (by repeat (first | (with_reducible first | exact HB.out | apply below_alloc | apply pw_below_drewN | apply below_drew1 | refine below_set ?_ GE206.out) | exact HB.out))) : w.heap.size ≤ gb216)); have n5_ := Aside0.mk ((by rw [hg]; exact Nat.ne_of_lt (blk_lt (g := gb206) (o := .cells #[.int .i64 a0_0, .int .i64 a0_1, .int .i64 a0_2, .int .i64 a0_3, .bool a0_4, .int .i64 a0_5, .bool a0_6] 24 (0, 0)) (by (with_reducible repeat (first | refine blk_drewN ?_ _ | refine blk_drew ?_ | refine blk_alloc ?_ _)); exact BK206.out)) : gb206 ≠ gb216)); have n6_ := Aside0.mk ((by rw [hg]; exact Nat.ne_of_gt (blk_lt (g := gb206) (o := .cells #[.int .i64 a0_0, .int .i64 a0_1, .int .i64 a0_2, .int .i64 a0_3, .bool a0_4, .int .i64 a0_5, .bool a0_6] 24 (0, 0)) (by (with_reducible repeat (first | refine blk_drewN ?_ _ | refine blk_drew ?_ | refine blk_alloc ?_ _)); exact BK206.out)) : gb216 ≠ gb206)); clear BK206; clear HB; have BK206 := n0_; have HB := n1_; have BK216 := n2_; have GW216 := n3_; have GE216 := n4_; have NB206_216 := n5_; have NB216_206 := n6_; clear n0_ n1_ n2_ n3_ n4_ n5_ n6_; clear hb hbox hg; have hnb11 := NB216_206.out; have hnc11 := NB206_216.out; have hcz12_0 : w10.cell? ⟨gb216, 0, none⟩ = some (.int .i64 0) := (blk_cell BK216.out 0).trans rfl; have hcz12_1 : w10.cell? ⟨gb216, 1, none⟩ = some (.int .i64 0) := (blk_cell BK216.out 1).trans rfl; have hcz12_2 : w10.cell? ⟨gb216, 2, none⟩ = some (.int .i64 0) := (blk_cell BK216.out 2).trans rfl; have hcz12_3 : w10.cell? ⟨gb216, 3, none⟩ = some (.int .i64 0) := (blk_cell BK216.out 3).trans rfl; have hcz12_4 : w10.cell? ⟨gb216, 4, none⟩ = some (.bool false) := (blk_cell BK216.out 4).trans rfl; have hcz12_5 : w10.cell? ⟨gb216, 5, none⟩ = some (.int .i64 0) := (blk_cell BK216.out 5).trans rfl; have hcz12_6 : w10.cell? ⟨gb216, 6, none⟩ = some (.bool false) := (blk_cell BK216.out 6).trans rfl; have hfz12_0 := blk_frozen BK216.out 0; have hfz12_1 := blk_frozen BK216.out 1; have hfz12_2 := blk_frozen BK216.out 2; have hfz12_3 := blk_frozen BK216.out 3; have hfz12_4 := blk_frozen BK216.out 4; have hfz12_5 := blk_frozen BK216.out 5; have hfz12_6 := blk_frozen BK216.out 6) | ((with_reducible refine gate_store (t := 24) (p := 6) rfl ?_); refine store_event (t := 24) (p := 6) (v := ?vo_w13) (w1 := (((((((w10.setCell ⟨gb216, 0, none⟩ (.int .i64 t208)).setCell ⟨gb216, 1, none⟩ (.int .i64 t209)).setCell ⟨gb216, 2, none⟩ (.int .i64 t210)).setCell ⟨gb216, 3, none⟩ (.int .i64 t211)).setCell ⟨gb216, 4, none⟩ (.bool t212)).setCell ⟨gb216, 5, none⟩ (.int .i64 t213)).setCell ⟨gb216, 6, none⟩ (.bool t214))) ?hg ?ho ?hn ?hr ?_; (case ho => rfl); (case hg => rfl); (case hn => rfl); (case hr => first | (go_simp; done) | (go_simp; rfl)); intro w13 hw; have n0_ : Aside0 (w13.heap[gb206]? = some (.cells #[.int .i64 a0_0, .int .i64 a0_1, .int .i64 a0_2, .int .i64 a0_3, .bool a0_4, .int .i64 a0_5, .bool a0_6] 24 (0, 0))) := ⟨(by rw [hw]; exact (by (with_reducible repeat (first | refine blk_drewN ?_ _ | refine blk_drew ?_ | refine blk_alloc ?_ _)); refine blk_far ?_ NB206_216.out _; (with_reducible repeat (first | refine blk_drewN ?_ _ | refine blk_drew ?_ | refine blk_alloc ?_ _)); refine blk_far ?_ NB206_216.out _; (with_reducible repeat (first | refine blk_drewN ?_ _ | refine blk_drew ?_ | refine blk_alloc ?_ _)); refine blk_far ?_ NB206_216.out _; (with_reducible repeat (first | refine blk_drewN ?_ _ | refine blk_drew ?_ | refine blk_alloc ?_ _)); refine blk_far ?_ NB206_216.out _; (with_reducible repeat (first | refine blk_drewN ?_ _ | refine blk_drew ?_ | refine blk_alloc ?_ _)); refine blk_far ?_ NB206_216.out _; (with_reducible repeat (first | refine blk_drewN ?_ _ | refine blk_drew ?_ | refine blk_alloc ?_ _)); refine blk_far ?_ NB206_216.out _; (with_reducible repeat (first | refine blk_drewN ?_ _ | refine blk_drew ?_ | refine blk_alloc ?_ _)); refine blk_far ?_ NB206_216.out _; (with_reducible repeat (first | refine blk_drewN ?_ _ | refine blk_drew ?_ | refine blk_alloc ?_ _)); exact BK206.out))⟩; have n1_ : Aside0 (w13.heap[gb216]? = some (.cells #[.int .i64 t208, .int .i64 t209, .int .i64 t210, .int .i64 t211, .bool t212, .int .i64 t213, .bool t214] 24 (0, 0))) := ⟨(by rw [hw]; exact (by (with_reducible repeat (first | refine blk_drewN ?_ _ | refine blk_drew ?_ | refine blk_alloc ?_ _)); refine blk_put (cs := #[.int .i64 t208, .int .i64 t209, .int .i64 t210, .int .i64 t211, .bool t212, .int .i64 t213, .bool false]) ?_ 6 _ rfl; (with_reducible repeat (first | refine blk_drewN ?_ _ | refine blk_drew ?_ | refine blk_alloc ?_ _)); refine blk_put (cs := #[.int .i64 t208, .int .i64 t209, .int .i64 t210, .int .i64 t211, .bool t212, .int .i64 0, .bool false]) ?_ 5 _ rfl; (with_reducible repeat (first | refine blk_drewN ?_ _ | refine blk_drew ?_ | refine blk_alloc ?_ _)); refine blk_put (cs := #[.int .i64 t208, .int .i64 t209, .int .i64 t210, .int .i64 t211, .bool false, .int .i64 0, .bool false]) ?_ 4 _ rfl; (with_reducible repeat (first | refine blk_drewN ?_ _ | refine blk_drew ?_ | refine blk_alloc ?_ _)); refine blk_put (cs := #[.int .i64 t208, .int .i64 t209, .int .i64 t210, .int .i64 0, .bool false, .int .i64 0, .bool false]) ?_ 3 _ rfl; (with_reducible repeat (first | refine blk_drewN ?_ _ | refine blk_drew ?_ | refine blk_alloc ?_ _)); refine blk_put (cs := #[.int .i64 t208, .int .i64 t209, .int .i64 0, .int .i64 0, .bool false, .int .i64 0, .bool false]) ?_ 2 _ rfl; (with_reducible repeat (first | refine blk_drewN ?_ _ | refine blk_drew ?_ | refine blk_alloc ?_ _)); refine blk_put (cs := #[.int .i64 t208, .int .i64 0, .int .i64 0, .int .i64 0, .bool false, .int .i64 0, .bool false]) ?_ 1 _ rfl; (with_reducible repeat (first | refine blk_drewN ?_ _ | refine blk_drew ?_ | refine blk_alloc ?_ _)); refine blk_put (cs := #[.int .i64 0, .int .i64 0, .int .i64 0, .int .i64 0, .bool false, .int .i64 0, .bool false]) ?_ 0 _ rfl; (with_reducible repeat (first | refine blk_drewN ?_ _ | refine blk_drew ?_ | refine blk_alloc ?_ _)); exact BK216.out))⟩; have n2_ : Aside0 (Below w.heap.size w w13) := ⟨(by rw [hw]; exact (by repeat (first | (with_reducible first | exact HB.out | apply below_alloc | apply pw_below_drewN | apply below_drew1 | refine below_set ?_ GE206.out | refine below_set ?_ GE216.out) | exact HB.out)))⟩; clear hw; clear BK206; clear BK216; clear HB; have BK206 := n0_; have BK216 := n1_; have HB := n2_; clear n0_ n1_ n2_))
    (try simp only [Act.put, List.setIfInBounds_toArray, List.set_cons_zero, List.set_cons_succ])
    go_cut [] (fun wc => ∃ (kq : Nat), Aside0 (crierlaw20_LrBack.j0 kq true a0_0 a0_1 a0_2 a0_3 a0_4 a0_5 a0_6 = some r) ∧ Aside0 (kq ≤ k) ∧ Aside0 (wc.heap[gb206]? = some (.cells #[.int .i64 a0_0, .int .i64 a0_1, .int .i64 a0_2, .int .i64 a0_3, .bool a0_4, .int .i64 a0_5, .bool a0_6] 24 (0, 0))) ∧ Aside0 (wc.heap[gb216]? = some (.cells #[.int .i64 t208, .int .i64 t209, .int .i64 t210, .int .i64 t211, .bool t212, .int .i64 t213, .bool t214] 24 (0, 0))) ∧ Aside0 (Below w.heap.size w wc))
    case first =>
      have H := HC6.out
      clear HC6
      by_cases c14 : t215 = 0
      · rw [if_pos c14] at H
        have c14b0 : (t215 == 0) = true := beq_iff_eq.mpr c14
        have c14b1 : (t215 != 0) = false := bne_eq_false_iff_eq.mpr c14
        clear c14
        (first | rw [c14b0] | (simp only [i64_w, i32_w]; rw [c14b0]) | skip)
        replace H := Option.bind_eq_some_iff.mp H
        obtain ⟨⟨t217, t218⟩, A150, H⟩ := H
        replace H : (if t218 = 0 then (if t217 = a1 then ((lr_May.f k t208 t209 t210 t211 t212 t213 t214).bind fun t219 => (if t219 = 0 then (crierlaw20_LrBack.j0 k true a0_0 a0_1 a0_2 a0_3 a0_4 a0_5 a0_6) else (some false))) else (some false)) else (some false)) = some r := H
        have A15 := Aside0.mk A150
        clear A150
        by_cases c16 : t218 = 0
        · rw [if_pos c16] at H
          have c16b0 : (t218 == 0) = true := beq_iff_eq.mpr c16
          have c16b1 : (t218 != 0) = false := bne_eq_false_iff_eq.mpr c16
          clear c16
          by_cases c17 : t217 = a1
          · rw [if_pos c17] at H
            have c17b0 : (t217 == a1) = true := beq_iff_eq.mpr c17
            have c17b1 : (t217 != a1) = false := bne_eq_false_iff_eq.mpr c17
            clear c17
            replace H := Option.bind_eq_some_iff.mp H
            obtain ⟨t219, A180, H⟩ := H
            replace H : (if t219 = 0 then (crierlaw20_LrBack.j0 k true a0_0 a0_1 a0_2 a0_3 a0_4 a0_5 a0_6) else (some false)) = some r := H
            have A18 := Aside0.mk A180
            clear A180
            by_cases c19 : t219 = 0
            · rw [if_pos c19] at H
              have c19b0 : (t219 == 0) = true := beq_iff_eq.mpr c19
              have c19b1 : (t219 != 0) = false := bne_eq_false_iff_eq.mpr c19
              clear c19
              have H' := Aside0.mk H
              clear H
              have hnb20 := NB216_206.out
              have hnc20 := NB206_216.out
              have hcz21_0 : w13.cell? ⟨gb216, 0, none⟩ = some (.int .i64 t208) := (blk_cell BK216.out 0).trans rfl
              have hcz21_1 : w13.cell? ⟨gb216, 1, none⟩ = some (.int .i64 t209) := (blk_cell BK216.out 1).trans rfl
              have hcz21_2 : w13.cell? ⟨gb216, 2, none⟩ = some (.int .i64 t210) := (blk_cell BK216.out 2).trans rfl
              have hcz21_3 : w13.cell? ⟨gb216, 3, none⟩ = some (.int .i64 t211) := (blk_cell BK216.out 3).trans rfl
              have hcz21_4 : w13.cell? ⟨gb216, 4, none⟩ = some (.bool t212) := (blk_cell BK216.out 4).trans rfl
              have hcz21_5 : w13.cell? ⟨gb216, 5, none⟩ = some (.int .i64 t213) := (blk_cell BK216.out 5).trans rfl
              have hcz21_6 : w13.cell? ⟨gb216, 6, none⟩ = some (.bool t214) := (blk_cell BK216.out 6).trans rfl
              have hfz21_0 := blk_frozen BK216.out 0
              have hfz21_1 := blk_frozen BK216.out 1
              have hfz21_2 := blk_frozen BK216.out 2
              have hfz21_3 := blk_frozen BK216.out 3
              have hfz21_4 := blk_frozen BK216.out 4
              have hfz21_5 := blk_frozen BK216.out 5
              have hfz21_6 := blk_frozen BK216.out 6
              go_wp2_with (first | ((with_reducible refine gate_callee (f := 9) rfl ?_); refine goesL_ (some 26) rfl rfl Try.func9 (by kernel_rfl) rfl #[.agg #[.int .i64 t208, .int .i64 t209, .int .i64 t210, .int .i64 t211, .bool t212, .int .i64 t213, .bool t214]] rfl (by (try simp only [List.map_toArray, List.map_cons, List.map_nil]); first | done | rfl | (simp only [List.length_drop, List.length_take]; rfl)) ?_; (with_reducible refine (lr_Encode.calls k t208 t209 t210 t211 t212 t213 t214 t217 t218 _ A15.out).mono ?_); rintro e w22 ⟨rfl, hb⟩; refine ⟨_, rfl, ?_⟩; have n0_ := Aside0.mk (blk_below (g := gb206) (o := .cells #[.int .i64 a0_0, .int .i64 a0_1, .int .i64 a0_2, .int .i64 a0_3, .bool a0_4, .int .i64 a0_5, .bool a0_6] 24 (0, 0)) (by (with_reducible repeat (first | refine blk_drewN ?_ _ | refine blk_drew ?_ | refine blk_alloc ?_ _)); exact BK206.out) hb); have n1_ := Aside0.mk (blk_below (g := gb216) (o := .cells #[.int .i64 t208, .int .i64 t209, .int .i64 t210, .int .i64 t211, .bool t212, .int .i64 t213, .bool t214] 24 (0, 0)) (by (with_reducible repeat (first | refine blk_drewN ?_ _ | refine blk_drew ?_ | refine blk_alloc ?_ _)); exact BK216.out) hb); have n2_ := Aside0.mk (below_step (by repeat (first | (with_reducible first | exact HB.out | apply below_alloc | apply pw_below_drewN | apply below_drew1 | refine below_set ?_ GE206.out | refine below_set ?_ GE216.out) | exact HB.out)) hb); clear BK206; clear BK216; clear HB; have BK206 := n0_; have BK216 := n1_; have HB := n2_; clear n0_ n1_ n2_; (try clear hb); (try clear hb2); (try clear hk); (try clear hi); have hcz23_0 : w22.cell? ⟨gb216, 0, none⟩ = some (.int .i64 t208) := (blk_cell BK216.out 0).trans rfl; have hcz23_1 : w22.cell? ⟨gb216, 1, none⟩ = some (.int .i64 t209) := (blk_cell BK216.out 1).trans rfl; have hcz23_2 : w22.cell? ⟨gb216, 2, none⟩ = some (.int .i64 t210) := (blk_cell BK216.out 2).trans rfl; have hcz23_3 : w22.cell? ⟨gb216, 3, none⟩ = some (.int .i64 t211) := (blk_cell BK216.out 3).trans rfl; have hcz23_4 : w22.cell? ⟨gb216, 4, none⟩ = some (.bool t212) := (blk_cell BK216.out 4).trans rfl; have hcz23_5 : w22.cell? ⟨gb216, 5, none⟩ = some (.int .i64 t213) := (blk_cell BK216.out 5).trans rfl; have hcz23_6 : w22.cell? ⟨gb216, 6, none⟩ = some (.bool t214) := (blk_cell BK216.out 6).trans rfl; have hfz23_0 := blk_frozen BK216.out 0; have hfz23_1 := blk_frozen BK216.out 1; have hfz23_2 := blk_frozen BK216.out 2; have hfz23_3 := blk_frozen BK216.out 3; have hfz23_4 := blk_frozen BK216.out 4; have hfz23_5 := blk_frozen BK216.out 5; have hfz23_6 := blk_frozen BK216.out 6) | (go_at_call 19; (with_reducible refine (lr_May.calls k t208 t209 t210 t211 t212 t213 t214 t219 _ A18.out).mono ?_); rintro e w24 ⟨rfl, hb⟩; have n0_ := Aside0.mk (blk_below (g := gb206) (o := .cells #[.int .i64 a0_0, .int .i64 a0_1, .int .i64 a0_2, .int .i64 a0_3, .bool a0_4, .int .i64 a0_5, .bool a0_6] 24 (0, 0)) (by (with_reducible repeat (first | refine blk_drewN ?_ _ | refine blk_drew ?_ | refine blk_alloc ?_ _)); exact BK206.out) hb); have n1_ := Aside0.mk (blk_below (g := gb216) (o := .cells #[.int .i64 t208, .int .i64 t209, .int .i64 t210, .int .i64 t211, .bool t212, .int .i64 t213, .bool t214] 24 (0, 0)) (by (with_reducible repeat (first | refine blk_drewN ?_ _ | refine blk_drew ?_ | refine blk_alloc ?_ _)); exact BK216.out) hb); have n2_ := Aside0.mk (below_step (by repeat (first | (with_reducible first | exact HB.out | apply below_alloc | apply pw_below_drewN | apply below_drew1 | refine below_set ?_ GE206.out | refine below_set ?_ GE216.out) | exact HB.out)) hb); clear BK206; clear BK216; clear HB; have BK206 := n0_; have BK216 := n1_; have HB := n2_; clear n0_ n1_ n2_; (try clear hb); (try clear hb2); (try clear hk); (try clear hi)))
              go_meet
              case rel => exact ⟨_, H', ⟨by first | omega | exact Nat.le_refl _⟩, ⟨by (with_reducible repeat (first | refine blk_drewN ?_ _ | refine blk_drew ?_ | refine blk_alloc ?_ _)); exact BK206.out⟩, ⟨by (with_reducible repeat (first | refine blk_drewN ?_ _ | refine blk_drew ?_ | refine blk_alloc ?_ _)); exact BK216.out⟩, ⟨by repeat (first | (with_reducible first | exact HB.out | apply below_alloc | apply pw_below_drewN | apply below_drew1 | refine below_set ?_ GE206.out | refine below_set ?_ GE216.out) | exact HB.out)⟩⟩
            · rw [if_neg c19] at H
              have c19b0 : (t219 == 0) = false := beq_eq_false_iff_ne.mpr c19
              have c19b1 : (t219 != 0) = true := bne_iff_ne.mpr c19
              obtain rfl := Option.some.inj H
              exact absurd hT_.out (by simp)
          · rw [if_neg c17] at H
            have c17b0 : (t217 == a1) = false := beq_eq_false_iff_ne.mpr c17
            have c17b1 : (t217 != a1) = true := bne_iff_ne.mpr c17
            obtain rfl := Option.some.inj H
            exact absurd hT_.out (by simp)
        · rw [if_neg c16] at H
          have c16b0 : (t218 == 0) = false := beq_eq_false_iff_ne.mpr c16
          have c16b1 : (t218 != 0) = true := bne_iff_ne.mpr c16
          obtain rfl := Option.some.inj H
          exact absurd hT_.out (by simp)
      · rw [if_neg c14] at H
        have c14b0 : (t215 == 0) = false := beq_eq_false_iff_ne.mpr c14
        have c14b1 : (t215 != 0) = true := bne_iff_ne.mpr c14
        (first | rw [c14b0] | (simp only [i64_w, i32_w]; rw [c14b0]) | skip)
        have H' := Aside0.mk H
        clear H
        go_wp2
        go_meet
        case rel => exact ⟨_, H', ⟨by first | omega | exact Nat.le_refl _⟩, ⟨by (with_reducible repeat (first | refine blk_drewN ?_ _ | refine blk_drew ?_ | refine blk_alloc ?_ _)); exact BK206.out⟩, ⟨by (with_reducible repeat (first | refine blk_drewN ?_ _ | refine blk_drew ?_ | refine blk_alloc ?_ _)); exact BK216.out⟩, ⟨by repeat (first | (with_reducible first | exact HB.out | apply below_alloc | apply pw_below_drewN | apply below_drew1 | refine below_set ?_ GE206.out | refine below_set ?_ GE216.out) | exact HB.out)⟩⟩
    case rest =>
      clear HC6
      try clear c1
      try clear c2
      try clear p2
      try clear c3
      try clear c4
      try clear c7
      try clear c9
      try clear c10
      try clear c11
      try clear c14
      try clear c14b0
      try clear c14b1
      try clear c16
      try clear c16b0
      try clear c16b1
      try clear c17
      try clear c17b0
      try clear c17b1
      try clear c19
      try clear c19b0
      try clear c19b1
      try clear c20
      try clear c25
      try clear c30
      try clear c33
      try clear hcz12_0
      try clear hcz12_1
      try clear hcz12_2
      try clear hcz12_3
      try clear hcz12_4
      try clear hcz12_5
      try clear hcz12_6
      try clear hcz21_0
      try clear hcz21_1
      try clear hcz21_2
      try clear hcz21_3
      try clear hcz21_4
      try clear hcz21_5
      try clear hcz21_6
      try clear hcz23_0
      try clear hcz23_1
      try clear hcz23_2
      try clear hcz23_3
      try clear hcz23_4
      try clear hcz23_5
      try clear hcz23_6
      try clear hcz26_0
      try clear hcz26_1
      try clear hcz26_2
      try clear hcz26_3
      try clear hcz26_4
      try clear hcz26_5
      try clear hcz26_6
      try clear hcz28_0
      try clear hcz28_1
      try clear hcz28_2
      try clear hcz28_3
      try clear hcz28_4
      try clear hcz28_5
      try clear hcz28_6
      try clear hcz31_0
      try clear hcz31_1
      try clear hcz31_2
      try clear hcz31_3
      try clear hcz31_4
      try clear hcz31_5
      try clear hcz31_6
      try clear hcz34_0
      try clear hcz34_1
      try clear hcz34_2
      try clear hcz34_3
      try clear hcz34_4
      try clear hcz34_5
      try clear hcz34_6
      try clear hfz12_0
      try clear hfz12_1
      try clear hfz12_2
      try clear hfz12_3
      try clear hfz12_4
      try clear hfz12_5
      try clear hfz12_6
      try clear hfz21_0
      try clear hfz21_1
      try clear hfz21_2
      try clear hfz21_3
      try clear hfz21_4
      try clear hfz21_5
      try clear hfz21_6
      try clear hfz23_0
      try clear hfz23_1
      try clear hfz23_2
      try clear hfz23_3
      try clear hfz23_4
      try clear hfz23_5
      try clear hfz23_6
      try clear hfz26_0
      try clear hfz26_1
      try clear hfz26_2
      try clear hfz26_3
      try clear hfz26_4
      try clear hfz26_5
      try clear hfz26_6
      try clear hfz28_0
      try clear hfz28_1
      try clear hfz28_2
      try clear hfz28_3
      try clear hfz28_4
      try clear hfz28_5
      try clear hfz28_6
      try clear hfz31_0
      try clear hfz31_1
      try clear hfz31_2
      try clear hfz31_3
      try clear hfz31_4
      try clear hfz31_5
      try clear hfz31_6
      try clear hfz34_0
      try clear hfz34_1
      try clear hfz34_2
      try clear hfz34_3
      try clear hfz34_4
      try clear hfz34_5
      try clear hfz34_6
      obtain ⟨kq, HA, HJ5, BK206, BK216, HB⟩ := hcut
      cases kq with
      | zero => exact absurd HA.out (by simp [crierlaw20_LrBack.j0])
      | succ kj5 =>
        have H := HA.out
        clear HA
        simp only [crierlaw20_LrBack.j0] at H
        replace H := Option.bind_eq_some_iff.mp H
        obtain ⟨⟨t220, t221⟩, A360, H⟩ := H
        replace H : (if t221 = 0 then ((lr_Decode.f kj5 t220).bind fun bt222 => (if true = true then (if (bt222.1 == a0_0 && (bt222.2.1 == a0_1 && (bt222.2.2.1 == a0_2 && (bt222.2.2.2.1 == a0_3 && (bt222.2.2.2.2.1 == a0_4 && (bt222.2.2.2.2.2.1 == a0_5 && (bt222.2.2.2.2.2.2.1 == a0_6))))))) = true then (some (bt222.2.2.2.2.2.2.2 == 0)) else (some false)) else (some false))) else (if true = true then (if t220 = 0 then ((lr_May.f kj5 a0_0 a0_1 a0_2 a0_3 a0_4 a0_5 a0_6).bind fun t231 => (some (t221 == t231))) else (some false)) else (some false))) = some r := H
        have A36 := Aside0.mk A360
        clear A360
        by_cases c37 : t221 = 0
        · rw [if_pos c37] at H
          have c37b0 : (t221 == 0) = true := beq_iff_eq.mpr c37
          have c37b1 : (t221 != 0) = false := bne_eq_false_iff_eq.mpr c37
          clear c37
          replace H := Option.bind_eq_some_iff.mp H
          obtain ⟨⟨t222, t223, t224, t225, t226, t227, t228, t229⟩, A380, H⟩ := H
          replace H : (if true = true then (if (t222 == a0_0 && (t223 == a0_1 && (t224 == a0_2 && (t225 == a0_3 && (t226 == a0_4 && (t227 == a0_5 && (t228 == a0_6))))))) = true then (some (t229 == 0)) else (some false)) else (some false)) = some r := H
          have A38 := Aside0.mk A380
          clear A380
          by_cases c39 : true = true
          · clear c39
            have H1 : (if (t222 == a0_0 && (t223 == a0_1 && (t224 == a0_2 && (t225 == a0_3 && (t226 == a0_4 && (t227 == a0_5 && (t228 == a0_6))))))) = true then (some (t229 == 0)) else (some false)) = some r := by first | (rw [if_pos rfl] at H; exact H) | (rw [if_pos trivial] at H; exact H)
            clear H
            have H := H1
            clear H1
            by_cases c40 : (t222 == a0_0 && (t223 == a0_1 && (t224 == a0_2 && (t225 == a0_3 && (t226 == a0_4 && (t227 == a0_5 && (t228 == a0_6))))))) = true
            · rw [if_pos c40] at H
              have c40b0 : (t222 == a0_0 && (t223 == a0_1 && (t224 == a0_2 && (t225 == a0_3 && (t226 == a0_4 && (t227 == a0_5 && (t228 == a0_6))))))) = true := c40
              (try (have c40b1 : decide (t222 = a0_0 && (t223 == a0_1 && (t224 == a0_2 && (t225 == a0_3 && (t226 == a0_4 && (t227 == a0_5 && (t228 == a0_6))))))) = true := by simpa using c40))
              (try (have c40b2 : (t222 == a0_0 && (t223 == a0_1 && (t224 == a0_2 && (t225 == a0_3 && (t226 == a0_4 && (t227 == a0_5 && (t228 == a0_6))))))) = true := by simpa using c40))
              clear c40
              obtain rfl := Option.some.inj H
              have hnb41 := NB206_216.out
              have hnc41 := NB216_206.out
              have hcz42_0 : wc.cell? ⟨gb206, 0, none⟩ = some (.int .i64 a0_0) := (blk_cell BK206.out 0).trans rfl
              have hcz42_1 : wc.cell? ⟨gb206, 1, none⟩ = some (.int .i64 a0_1) := (blk_cell BK206.out 1).trans rfl
              have hcz42_2 : wc.cell? ⟨gb206, 2, none⟩ = some (.int .i64 a0_2) := (blk_cell BK206.out 2).trans rfl
              have hcz42_3 : wc.cell? ⟨gb206, 3, none⟩ = some (.int .i64 a0_3) := (blk_cell BK206.out 3).trans rfl
              have hcz42_4 : wc.cell? ⟨gb206, 4, none⟩ = some (.bool a0_4) := (blk_cell BK206.out 4).trans rfl
              have hcz42_5 : wc.cell? ⟨gb206, 5, none⟩ = some (.int .i64 a0_5) := (blk_cell BK206.out 5).trans rfl
              have hcz42_6 : wc.cell? ⟨gb206, 6, none⟩ = some (.bool a0_6) := (blk_cell BK206.out 6).trans rfl
              have hfz42_0 := blk_frozen BK206.out 0
              have hfz42_1 := blk_frozen BK206.out 1
              have hfz42_2 := blk_frozen BK206.out 2
              have hfz42_3 := blk_frozen BK206.out 3
              have hfz42_4 := blk_frozen BK206.out 4
              have hfz42_5 := blk_frozen BK206.out 5
              have hfz42_6 := blk_frozen BK206.out 6
              go_wp2_with (first | ((with_reducible refine gate_callee (f := 9) rfl ?_); refine goesL_ (some 43) rfl rfl Try.func9 (by kernel_rfl) rfl #[.agg #[.int .i64 a0_0, .int .i64 a0_1, .int .i64 a0_2, .int .i64 a0_3, .bool a0_4, .int .i64 a0_5, .bool a0_6]] rfl (by (try simp only [List.map_toArray, List.map_cons, List.map_nil]); first | done | rfl | (simp only [List.length_drop, List.length_take]; rfl)) ?_; (with_reducible refine (lr_Encode.calls kj5 a0_0 a0_1 a0_2 a0_3 a0_4 a0_5 a0_6 t220 t221 _ A36.out).mono ?_); rintro e w43 ⟨rfl, hb⟩; refine ⟨_, rfl, ?_⟩; have n0_ := Aside0.mk (blk_below (g := gb206) (o := .cells #[.int .i64 a0_0, .int .i64 a0_1, .int .i64 a0_2, .int .i64 a0_3, .bool a0_4, .int .i64 a0_5, .bool a0_6] 24 (0, 0)) (by (with_reducible repeat (first | refine blk_drewN ?_ _ | refine blk_drew ?_ | refine blk_alloc ?_ _)); exact BK206.out) hb); have n1_ := Aside0.mk (blk_below (g := gb216) (o := .cells #[.int .i64 t208, .int .i64 t209, .int .i64 t210, .int .i64 t211, .bool t212, .int .i64 t213, .bool t214] 24 (0, 0)) (by (with_reducible repeat (first | refine blk_drewN ?_ _ | refine blk_drew ?_ | refine blk_alloc ?_ _)); exact BK216.out) hb); have n2_ := Aside0.mk (below_step (by repeat (first | (with_reducible first | exact HB.out | apply below_alloc | apply pw_below_drewN | apply below_drew1 | refine below_set ?_ GE206.out | refine below_set ?_ GE216.out) | exact HB.out)) hb); clear BK206; clear BK216; clear HB; have BK206 := n0_; have BK216 := n1_; have HB := n2_; clear n0_ n1_ n2_; (try clear hb); (try clear hb2); (try clear hk); (try clear hi)) | ((with_reducible refine gate_callee (f := 17) rfl ?_); refine goesL_ (some 61) rfl rfl Try.func17 (by kernel_rfl) rfl #[.int .u64 t220] rfl (by (try simp only [List.map_toArray, List.map_cons, List.map_nil]); first | done | rfl | (simp only [List.length_drop, List.length_take]; rfl)) ?_; (with_reducible refine (lr_Decode.calls kj5 t220 t222 t223 t224 t225 t226 t227 t228 t229 _ A38.out).mono ?_); rintro e w44 ⟨rfl, hb⟩; refine ⟨_, rfl, ?_⟩; have n0_ := Aside0.mk (blk_below (g := gb206) (o := .cells #[.int .i64 a0_0, .int .i64 a0_1, .int .i64 a0_2, .int .i64 a0_3, .bool a0_4, .int .i64 a0_5, .bool a0_6] 24 (0, 0)) (by (with_reducible repeat (first | refine blk_drewN ?_ _ | refine blk_drew ?_ | refine blk_alloc ?_ _)); exact BK206.out) hb); have n1_ := Aside0.mk (blk_below (g := gb216) (o := .cells #[.int .i64 t208, .int .i64 t209, .int .i64 t210, .int .i64 t211, .bool t212, .int .i64 t213, .bool t214] 24 (0, 0)) (by (with_reducible repeat (first | refine blk_drewN ?_ _ | refine blk_drew ?_ | refine blk_alloc ?_ _)); exact BK216.out) hb); have n2_ := Aside0.mk (below_step (by repeat (first | (with_reducible first | exact HB.out | apply below_alloc | apply pw_below_drewN | apply below_drew1 | refine below_set ?_ GE206.out | refine below_set ?_ GE216.out) | exact HB.out)) hb); clear BK206; clear BK216; clear HB; have BK206 := n0_; have BK216 := n1_; have HB := n2_; clear n0_ n1_ n2_; (try clear hb); (try clear hb2); (try clear hk); (try clear hi)) | ((with_reducible refine gate_dst (N := 12) rfl ?_); refine box_event ?hg (N := 12) ?hd (cs := #[.int .i64 0, .int .i64 0, .int .i64 0, .int .i64 0, .bool false, .int .i64 0, .bool false]) (t := 24) ?hr ?_; (case hd => rfl); (case hg => rfl); (case hr => first | (go_simp; done) | (go_simp; rfl)); intro gb230 hg w45 hbox hb; have n0_ := Aside0.mk (blk_below (g := gb206) (o := .cells #[.int .i64 a0_0, .int .i64 a0_1, .int .i64 a0_2, .int .i64 a0_3, .bool a0_4, .int .i64 a0_5, .bool a0_6] 24 (0, 0)) (by (with_reducible repeat (first | refine blk_drewN ?_ _ | refine blk_drew ?_ | refine blk_alloc ?_ _)); exact BK206.out) hb); have n1_ := Aside0.mk (blk_below (g := gb216) (o := .cells #[.int .i64 t208, .int .i64 t209, .int .i64 t210, .int .i64 t211, .bool t212, .int .i64 t213, .bool t214] 24 (0, 0)) (by (with_reducible repeat (first | refine blk_drewN ?_ _ | refine blk_drew ?_ | refine blk_alloc ?_ _)); exact BK216.out) hb); have n2_ := Aside0.mk (below_step (by repeat (first | (with_reducible first | exact HB.out | apply below_alloc | apply pw_below_drewN | apply below_drew1 | refine below_set ?_ GE206.out | refine below_set ?_ GE216.out) | exact HB.out)) hb); have n3_ := Aside0.mk (hbox); have n4_ := Aside0.mk ((by rw [hg]; exact (below_size (by repeat (first | (with_reducible first | exact HB.out | apply below_alloc | apply pw_below_drewN | apply below_drew1 | refine below_set ?_ GE206.out | refine below_set ?_ GE216.out) | exact HB.out))) : w.heap.size ≤ gb230)); have n5_ := Aside0.mk ((by rw [hg]; exact (below_size (by repeat (first | (with_reducible first | exact HB.out | apply below_alloc | apply pw_below_drewN | apply below_drew1 | refine below_set ?_ GE206.out | refine below_set ?_ GE216.out) | exact HB.out))) : w.heap.size ≤ gb230)); have n6_ := Aside0.mk ((by rw [hg]; exact Nat.ne_of_lt (blk_lt (g := gb206) (o := .cells #[.int .i64 a0_0, .int .i64 a0_1, .int .i64 a0_2, .int .i64 a0_3, .bool a0_4, .int .i64 a0_5, .bool a0_6] 24 (0, 0)) (by (with_reducible repeat (first | refine blk_drewN ?_ _ | refine blk_drew ?_ | refine blk_alloc ?_ _)); exact BK206.out)) : gb206 ≠ gb230)); have n7_ := Aside0.mk ((by rw [hg]; exact Nat.ne_of_gt (blk_lt (g := gb206) (o := .cells #[.int .i64 a0_0, .int .i64 a0_1, .int .i64 a0_2, .int .i64 a0_3, .bool a0_4, .int .i64 a0_5, .bool a0_6] 24 (0, 0)) (by (with_reducible repeat (first | refine blk_drewN ?_ _ | refine blk_drew ?_ | refine blk_alloc ?_ _)); exact BK206.out)) : gb230 ≠ gb206)); have n8_ := Aside0.mk ((by rw [hg]; exact Nat.ne_of_lt (blk_lt (g := gb216) (o := .cells #[.int .i64 t208, .int .i64 t209, .int .i64 t210, .int .i64 t211, .bool t212, .int .i64 t213, .bool t214] 24 (0, 0)) (by (with_reducible repeat (first | refine blk_drewN ?_ _ | refine blk_drew ?_ | refine blk_alloc ?_ _)); exact BK216.out)) : gb216 ≠ gb230)); have n9_ := Aside0.mk ((by rw [hg]; exact Nat.ne_of_gt (blk_lt (g := gb216) (o := .cells #[.int .i64 t208, .int .i64 t209, .int .i64 t210, .int .i64 t211, .bool t212, .int .i64 t213, .bool t214] 24 (0, 0)) (by (with_reducible repeat (first | refine blk_drewN ?_ _ | refine blk_drew ?_ | refine blk_alloc ?_ _)); exact BK216.out)) : gb230 ≠ gb216)); clear BK206; clear BK216; clear HB; have BK206 := n0_; have BK216 := n1_; have HB := n2_; have BK230 := n3_; have GW230 := n4_; have GE230 := n5_; have NB206_230 := n6_; have NB230_206 := n7_; have NB216_230 := n8_; have NB230_216 := n9_; clear n0_ n1_ n2_ n3_ n4_ n5_ n6_ n7_ n8_ n9_; clear hb hbox hg; have hnb46 := NB230_206.out; have hnc46 := NB206_230.out; have hnb47 := NB230_216.out; have hnc47 := NB216_230.out; have hcz48_0 : w45.cell? ⟨gb230, 0, none⟩ = some (.int .i64 0) := (blk_cell BK230.out 0).trans rfl; have hcz48_1 : w45.cell? ⟨gb230, 1, none⟩ = some (.int .i64 0) := (blk_cell BK230.out 1).trans rfl; have hcz48_2 : w45.cell? ⟨gb230, 2, none⟩ = some (.int .i64 0) := (blk_cell BK230.out 2).trans rfl; have hcz48_3 : w45.cell? ⟨gb230, 3, none⟩ = some (.int .i64 0) := (blk_cell BK230.out 3).trans rfl; have hcz48_4 : w45.cell? ⟨gb230, 4, none⟩ = some (.bool false) := (blk_cell BK230.out 4).trans rfl; have hcz48_5 : w45.cell? ⟨gb230, 5, none⟩ = some (.int .i64 0) := (blk_cell BK230.out 5).trans rfl; have hcz48_6 : w45.cell? ⟨gb230, 6, none⟩ = some (.bool false) := (blk_cell BK230.out 6).trans rfl; have hfz48_0 := blk_frozen BK230.out 0; have hfz48_1 := blk_frozen BK230.out 1; have hfz48_2 := blk_frozen BK230.out 2; have hfz48_3 := blk_frozen BK230.out 3; have hfz48_4 := blk_frozen BK230.out 4; have hfz48_5 := blk_frozen BK230.out 5; have hfz48_6 := blk_frozen BK230.out 6) | ((with_reducible refine gate_store (t := 24) (p := 12) rfl ?_); refine store_event (t := 24) (p := 12) (v := ?vo_w49) (w1 := (((((((w45.setCell ⟨gb230, 0, none⟩ (.int .i64 t222)).setCell ⟨gb230, 1, none⟩ (.int .i64 t223)).setCell ⟨gb230, 2, none⟩ (.int .i64 t224)).setCell ⟨gb230, 3, none⟩ (.int .i64 t225)).setCell ⟨gb230, 4, none⟩ (.bool t226)).setCell ⟨gb230, 5, none⟩ (.int .i64 t227)).setCell ⟨gb230, 6, none⟩ (.bool t228))) ?hg ?ho ?hn ?hr ?_; (case ho => rfl); (case hg => rfl); (case hn => rfl); (case hr => first | (go_simp; done) | (go_simp; rfl)); intro w49 hw; have n0_ : Aside0 (w49.heap[gb206]? = some (.cells #[.int .i64 a0_0, .int .i64 a0_1, .int .i64 a0_2, .int .i64 a0_3, .bool a0_4, .int .i64 a0_5, .bool a0_6] 24 (0, 0))) := ⟨(by rw [hw]; exact (by (with_reducible repeat (first | refine blk_drewN ?_ _ | refine blk_drew ?_ | refine blk_alloc ?_ _)); refine blk_far ?_ NB206_230.out _; (with_reducible repeat (first | refine blk_drewN ?_ _ | refine blk_drew ?_ | refine blk_alloc ?_ _)); refine blk_far ?_ NB206_230.out _; (with_reducible repeat (first | refine blk_drewN ?_ _ | refine blk_drew ?_ | refine blk_alloc ?_ _)); refine blk_far ?_ NB206_230.out _; (with_reducible repeat (first | refine blk_drewN ?_ _ | refine blk_drew ?_ | refine blk_alloc ?_ _)); refine blk_far ?_ NB206_230.out _; (with_reducible repeat (first | refine blk_drewN ?_ _ | refine blk_drew ?_ | refine blk_alloc ?_ _)); refine blk_far ?_ NB206_230.out _; (with_reducible repeat (first | refine blk_drewN ?_ _ | refine blk_drew ?_ | refine blk_alloc ?_ _)); refine blk_far ?_ NB206_230.out _; (with_reducible repeat (first | refine blk_drewN ?_ _ | refine blk_drew ?_ | refine blk_alloc ?_ _)); refine blk_far ?_ NB206_230.out _; (with_reducible repeat (first | refine blk_drewN ?_ _ | refine blk_drew ?_ | refine blk_alloc ?_ _)); exact BK206.out))⟩; have n1_ : Aside0 (w49.heap[gb216]? = some (.cells #[.int .i64 t208, .int .i64 t209, .int .i64 t210, .int .i64 t211, .bool t212, .int .i64 t213, .bool t214] 24 (0, 0))) := ⟨(by rw [hw]; exact (by (with_reducible repeat (first | refine blk_drewN ?_ _ | refine blk_drew ?_ | refine blk_alloc ?_ _)); refine blk_far ?_ NB216_230.out _; (with_reducible repeat (first | refine blk_drewN ?_ _ | refine blk_drew ?_ | refine blk_alloc ?_ _)); refine blk_far ?_ NB216_230.out _; (with_reducible repeat (first | refine blk_drewN ?_ _ | refine blk_drew ?_ | refine blk_alloc ?_ _)); refine blk_far ?_ NB216_230.out _; (with_reducible repeat (first | refine blk_drewN ?_ _ | refine blk_drew ?_ | refine blk_alloc ?_ _)); refine blk_far ?_ NB216_230.out _; (with_reducible repeat (first | refine blk_drewN ?_ _ | refine blk_drew ?_ | refine blk_alloc ?_ _)); refine blk_far ?_ NB216_230.out _; (with_reducible repeat (first | refine blk_drewN ?_ _ | refine blk_drew ?_ | refine blk_alloc ?_ _)); refine blk_far ?_ NB216_230.out _; (with_reducible repeat (first | refine blk_drewN ?_ _ | refine blk_drew ?_ | refine blk_alloc ?_ _)); refine blk_far ?_ NB216_230.out _; (with_reducible repeat (first | refine blk_drewN ?_ _ | refine blk_drew ?_ | refine blk_alloc ?_ _)); exact BK216.out))⟩; have n2_ : Aside0 (w49.heap[gb230]? = some (.cells #[.int .i64 t222, .int .i64 t223, .int .i64 t224, .int .i64 t225, .bool t226, .int .i64 t227, .bool t228] 24 (0, 0))) := ⟨(by rw [hw]; exact (by (with_reducible repeat (first | refine blk_drewN ?_ _ | refine blk_drew ?_ | refine blk_alloc ?_ _)); refine blk_put (cs := #[.int .i64 t222, .int .i64 t223, .int .i64 t224, .int .i64 t225, .bool t226, .int .i64 t227, .bool false]) ?_ 6 _ rfl; (with_reducible repeat (first | refine blk_drewN ?_ _ | refine blk_drew ?_ | refine blk_alloc ?_ _)); refine blk_put (cs := #[.int .i64 t222, .int .i64 t223, .int .i64 t224, .int .i64 t225, .bool t226, .int .i64 0, .bool false]) ?_ 5 _ rfl; (with_reducible repeat (first | refine blk_drewN ?_ _ | refine blk_drew ?_ | refine blk_alloc ?_ _)); refine blk_put (cs := #[.int .i64 t222, .int .i64 t223, .int .i64 t224, .int .i64 t225, .bool false, .int .i64 0, .bool false]) ?_ 4 _ rfl; (with_reducible repeat (first | refine blk_drewN ?_ _ | refine blk_drew ?_ | refine blk_alloc ?_ _)); refine blk_put (cs := #[.int .i64 t222, .int .i64 t223, .int .i64 t224, .int .i64 0, .bool false, .int .i64 0, .bool false]) ?_ 3 _ rfl; (with_reducible repeat (first | refine blk_drewN ?_ _ | refine blk_drew ?_ | refine blk_alloc ?_ _)); refine blk_put (cs := #[.int .i64 t222, .int .i64 t223, .int .i64 0, .int .i64 0, .bool false, .int .i64 0, .bool false]) ?_ 2 _ rfl; (with_reducible repeat (first | refine blk_drewN ?_ _ | refine blk_drew ?_ | refine blk_alloc ?_ _)); refine blk_put (cs := #[.int .i64 t222, .int .i64 0, .int .i64 0, .int .i64 0, .bool false, .int .i64 0, .bool false]) ?_ 1 _ rfl; (with_reducible repeat (first | refine blk_drewN ?_ _ | refine blk_drew ?_ | refine blk_alloc ?_ _)); refine blk_put (cs := #[.int .i64 0, .int .i64 0, .int .i64 0, .int .i64 0, .bool false, .int .i64 0, .bool false]) ?_ 0 _ rfl; (with_reducible repeat (first | refine blk_drewN ?_ _ | refine blk_drew ?_ | refine blk_alloc ?_ _)); exact BK230.out))⟩; have n3_ : Aside0 (Below w.heap.size w w49) := ⟨(by rw [hw]; exact (by repeat (first | (with_reducible first | exact HB.out | apply below_alloc | apply pw_below_drewN | apply below_drew1 | refine below_set ?_ GE206.out | refine below_set ?_ GE216.out | refine below_set ?_ GE230.out) | exact HB.out)))⟩; clear hw; clear BK206; clear BK216; clear BK230; clear HB; have BK206 := n0_; have BK216 := n1_; have BK230 := n2_; have HB := n3_; clear n0_ n1_ n2_ n3_; have hcz50_0 : w49.cell? ⟨gb230, 0, none⟩ = some (.int .i64 t222) := (blk_cell BK230.out 0).trans rfl; have hcz50_1 : w49.cell? ⟨gb230, 1, none⟩ = some (.int .i64 t223) := (blk_cell BK230.out 1).trans rfl; have hcz50_2 : w49.cell? ⟨gb230, 2, none⟩ = some (.int .i64 t224) := (blk_cell BK230.out 2).trans rfl; have hcz50_3 : w49.cell? ⟨gb230, 3, none⟩ = some (.int .i64 t225) := (blk_cell BK230.out 3).trans rfl; have hcz50_4 : w49.cell? ⟨gb230, 4, none⟩ = some (.bool t226) := (blk_cell BK230.out 4).trans rfl; have hcz50_5 : w49.cell? ⟨gb230, 5, none⟩ = some (.int .i64 t227) := (blk_cell BK230.out 5).trans rfl; have hcz50_6 : w49.cell? ⟨gb230, 6, none⟩ = some (.bool t228) := (blk_cell BK230.out 6).trans rfl; have hfz50_0 := blk_frozen BK230.out 0; have hfz50_1 := blk_frozen BK230.out 1; have hfz50_2 := blk_frozen BK230.out 2; have hfz50_3 := blk_frozen BK230.out 3; have hfz50_4 := blk_frozen BK230.out 4; have hfz50_5 := blk_frozen BK230.out 5; have hfz50_6 := blk_frozen BK230.out 6; have hcz51_0 : w49.cell? ⟨gb206, 0, none⟩ = some (.int .i64 a0_0) := (blk_cell BK206.out 0).trans rfl; have hcz51_1 : w49.cell? ⟨gb206, 1, none⟩ = some (.int .i64 a0_1) := (blk_cell BK206.out 1).trans rfl; have hcz51_2 : w49.cell? ⟨gb206, 2, none⟩ = some (.int .i64 a0_2) := (blk_cell BK206.out 2).trans rfl; have hcz51_3 : w49.cell? ⟨gb206, 3, none⟩ = some (.int .i64 a0_3) := (blk_cell BK206.out 3).trans rfl; have hcz51_4 : w49.cell? ⟨gb206, 4, none⟩ = some (.bool a0_4) := (blk_cell BK206.out 4).trans rfl; have hcz51_5 : w49.cell? ⟨gb206, 5, none⟩ = some (.int .i64 a0_5) := (blk_cell BK206.out 5).trans rfl; have hcz51_6 : w49.cell? ⟨gb206, 6, none⟩ = some (.bool a0_6) := (blk_cell BK206.out 6).trans rfl; have hfz51_0 := blk_frozen BK206.out 0; have hfz51_1 := blk_frozen BK206.out 1; have hfz51_2 := blk_frozen BK206.out 2; have hfz51_3 := blk_frozen BK206.out 3; have hfz51_4 := blk_frozen BK206.out 4; have hfz51_5 := blk_frozen BK206.out 5; have hfz51_6 := blk_frozen BK206.out 6))
              go_ret
              exact ⟨by first | rfl | (simp [errW_none, errW_some] <;> rfl) | (simp [*, errW_none, errW_some] <;> rfl), by repeat (first | (with_reducible first | exact HB.out | apply below_alloc | apply pw_below_drewN | apply below_drew1 | refine below_set ?_ GE206.out | refine below_set ?_ GE216.out | refine below_set ?_ GE230.out) | exact HB.out)⟩
            · rw [if_neg c40] at H
              have c40b0 : (t222 == a0_0 && (t223 == a0_1 && (t224 == a0_2 && (t225 == a0_3 && (t226 == a0_4 && (t227 == a0_5 && (t228 == a0_6))))))) = false := by simpa using c40
              (try (have c40b1 : decide (t222 = a0_0 && (t223 == a0_1 && (t224 == a0_2 && (t225 == a0_3 && (t226 == a0_4 && (t227 == a0_5 && (t228 == a0_6))))))) = false := by simpa using c40))
              (try (have c40b2 : (t222 == a0_0 && (t223 == a0_1 && (t224 == a0_2 && (t225 == a0_3 && (t226 == a0_4 && (t227 == a0_5 && (t228 == a0_6))))))) = false := by simpa using c40))
              (try (have c40b3 : ¬ (t222 = a0_0 && (t223 == a0_1 && (t224 == a0_2 && (t225 == a0_3 && (t226 == a0_4 && (t227 == a0_5 && (t228 == a0_6))))))) := by simpa using c40))
              clear c40
              obtain rfl := Option.some.inj H
              exact absurd hT_.out (by simp)
          · exact absurd rfl c39
        · rw [if_neg c37] at H
          have c37b0 : (t221 == 0) = false := beq_eq_false_iff_ne.mpr c37
          have c37b1 : (t221 != 0) = true := bne_iff_ne.mpr c37
          by_cases c72 : true = true
          · clear c72
            have H1 : (if t220 = 0 then ((lr_May.f kj5 a0_0 a0_1 a0_2 a0_3 a0_4 a0_5 a0_6).bind fun t231 => (some (t221 == t231))) else (some false)) = some r := by first | (rw [if_pos rfl] at H; exact H) | (rw [if_pos trivial] at H; exact H)
            clear H
            have H := H1
            clear H1
            by_cases c73 : t220 = 0
            · rw [if_pos c73] at H
              have c73b0 : (t220 == 0) = true := beq_iff_eq.mpr c73
              have c73b1 : (t220 != 0) = false := bne_eq_false_iff_eq.mpr c73
              clear c73
              replace H := Option.bind_eq_some_iff.mp H
              obtain ⟨t231, A740, H⟩ := H
              replace H : (some (t221 == t231)) = some r := H
              have A74 := Aside0.mk A740
              clear A740
              obtain rfl := Option.some.inj H
              have hnb75 := NB206_216.out
              have hnc75 := NB216_206.out
              have hcz76_0 : wc.cell? ⟨gb206, 0, none⟩ = some (.int .i64 a0_0) := (blk_cell BK206.out 0).trans rfl
              have hcz76_1 : wc.cell? ⟨gb206, 1, none⟩ = some (.int .i64 a0_1) := (blk_cell BK206.out 1).trans rfl
              have hcz76_2 : wc.cell? ⟨gb206, 2, none⟩ = some (.int .i64 a0_2) := (blk_cell BK206.out 2).trans rfl
              have hcz76_3 : wc.cell? ⟨gb206, 3, none⟩ = some (.int .i64 a0_3) := (blk_cell BK206.out 3).trans rfl
              have hcz76_4 : wc.cell? ⟨gb206, 4, none⟩ = some (.bool a0_4) := (blk_cell BK206.out 4).trans rfl
              have hcz76_5 : wc.cell? ⟨gb206, 5, none⟩ = some (.int .i64 a0_5) := (blk_cell BK206.out 5).trans rfl
              have hcz76_6 : wc.cell? ⟨gb206, 6, none⟩ = some (.bool a0_6) := (blk_cell BK206.out 6).trans rfl
              have hfz76_0 := blk_frozen BK206.out 0
              have hfz76_1 := blk_frozen BK206.out 1
              have hfz76_2 := blk_frozen BK206.out 2
              have hfz76_3 := blk_frozen BK206.out 3
              have hfz76_4 := blk_frozen BK206.out 4
              have hfz76_5 := blk_frozen BK206.out 5
              have hfz76_6 := blk_frozen BK206.out 6
              go_wp2_with (first | ((with_reducible refine gate_callee (f := 9) rfl ?_); refine goesL_ (some 43) rfl rfl Try.func9 (by kernel_rfl) rfl #[.agg #[.int .i64 a0_0, .int .i64 a0_1, .int .i64 a0_2, .int .i64 a0_3, .bool a0_4, .int .i64 a0_5, .bool a0_6]] rfl (by (try simp only [List.map_toArray, List.map_cons, List.map_nil]); first | done | rfl | (simp only [List.length_drop, List.length_take]; rfl)) ?_; (with_reducible refine (lr_Encode.calls kj5 a0_0 a0_1 a0_2 a0_3 a0_4 a0_5 a0_6 t220 t221 _ A36.out).mono ?_); rintro e w77 ⟨rfl, hb⟩; refine ⟨_, rfl, ?_⟩; have n0_ := Aside0.mk (blk_below (g := gb206) (o := .cells #[.int .i64 a0_0, .int .i64 a0_1, .int .i64 a0_2, .int .i64 a0_3, .bool a0_4, .int .i64 a0_5, .bool a0_6] 24 (0, 0)) (by (with_reducible repeat (first | refine blk_drewN ?_ _ | refine blk_drew ?_ | refine blk_alloc ?_ _)); exact BK206.out) hb); have n1_ := Aside0.mk (blk_below (g := gb216) (o := .cells #[.int .i64 t208, .int .i64 t209, .int .i64 t210, .int .i64 t211, .bool t212, .int .i64 t213, .bool t214] 24 (0, 0)) (by (with_reducible repeat (first | refine blk_drewN ?_ _ | refine blk_drew ?_ | refine blk_alloc ?_ _)); exact BK216.out) hb); have n2_ := Aside0.mk (below_step (by repeat (first | (with_reducible first | exact HB.out | apply below_alloc | apply pw_below_drewN | apply below_drew1 | refine below_set ?_ GE206.out | refine below_set ?_ GE216.out) | exact HB.out)) hb); clear BK206; clear BK216; clear HB; have BK206 := n0_; have BK216 := n1_; have HB := n2_; clear n0_ n1_ n2_; (try clear hb); (try clear hb2); (try clear hk); (try clear hi); have hcz78_0 : w77.cell? ⟨gb206, 0, none⟩ = some (.int .i64 a0_0) := (blk_cell BK206.out 0).trans rfl; have hcz78_1 : w77.cell? ⟨gb206, 1, none⟩ = some (.int .i64 a0_1) := (blk_cell BK206.out 1).trans rfl; have hcz78_2 : w77.cell? ⟨gb206, 2, none⟩ = some (.int .i64 a0_2) := (blk_cell BK206.out 2).trans rfl; have hcz78_3 : w77.cell? ⟨gb206, 3, none⟩ = some (.int .i64 a0_3) := (blk_cell BK206.out 3).trans rfl; have hcz78_4 : w77.cell? ⟨gb206, 4, none⟩ = some (.bool a0_4) := (blk_cell BK206.out 4).trans rfl; have hcz78_5 : w77.cell? ⟨gb206, 5, none⟩ = some (.int .i64 a0_5) := (blk_cell BK206.out 5).trans rfl; have hcz78_6 : w77.cell? ⟨gb206, 6, none⟩ = some (.bool a0_6) := (blk_cell BK206.out 6).trans rfl; have hfz78_0 := blk_frozen BK206.out 0; have hfz78_1 := blk_frozen BK206.out 1; have hfz78_2 := blk_frozen BK206.out 2; have hfz78_3 := blk_frozen BK206.out 3; have hfz78_4 := blk_frozen BK206.out 4; have hfz78_5 := blk_frozen BK206.out 5; have hfz78_6 := blk_frozen BK206.out 6) | (go_at_call 19; (with_reducible refine (lr_May.calls kj5 a0_0 a0_1 a0_2 a0_3 a0_4 a0_5 a0_6 t231 _ A74.out).mono ?_); rintro e w79 ⟨rfl, hb⟩; have n0_ := Aside0.mk (blk_below (g := gb206) (o := .cells #[.int .i64 a0_0, .int .i64 a0_1, .int .i64 a0_2, .int .i64 a0_3, .bool a0_4, .int .i64 a0_5, .bool a0_6] 24 (0, 0)) (by (with_reducible repeat (first | refine blk_drewN ?_ _ | refine blk_drew ?_ | refine blk_alloc ?_ _)); exact BK206.out) hb); have n1_ := Aside0.mk (blk_below (g := gb216) (o := .cells #[.int .i64 t208, .int .i64 t209, .int .i64 t210, .int .i64 t211, .bool t212, .int .i64 t213, .bool t214] 24 (0, 0)) (by (with_reducible repeat (first | refine blk_drewN ?_ _ | refine blk_drew ?_ | refine blk_alloc ?_ _)); exact BK216.out) hb); have n2_ := Aside0.mk (below_step (by repeat (first | (with_reducible first | exact HB.out | apply below_alloc | apply pw_below_drewN | apply below_drew1 | refine below_set ?_ GE206.out | refine below_set ?_ GE216.out) | exact HB.out)) hb); clear BK206; clear BK216; clear HB; have BK206 := n0_; have BK216 := n1_; have HB := n2_; clear n0_ n1_ n2_; (try clear hb); (try clear hb2); (try clear hk); (try clear hi)))
              go_ret
              exact ⟨by first | rfl | (simp [errW_none, errW_some] <;> rfl) | (simp [*, errW_none, errW_some] <;> rfl), by repeat (first | (with_reducible first | exact HB.out | apply below_alloc | apply pw_below_drewN | apply below_drew1 | refine below_set ?_ GE206.out | refine below_set ?_ GE216.out) | exact HB.out)⟩
            · rw [if_neg c73] at H
              have c73b0 : (t220 == 0) = false := beq_eq_false_iff_ne.mpr c73
              have c73b1 : (t220 != 0) = true := bne_iff_ne.mpr c73
              obtain rfl := Option.some.inj H
              exact absurd hT_.out (by simp)
          · exact absurd rfl c72
  · replace c4 := Bool.eq_false_iff.mpr c4
    subst c4
    have H1 : (some false) = some r := by rw [if_neg (show ¬ (false = true) by decide)] at H; exact H
    clear H
    have H := H1
    clear H1
    obtain rfl := Option.some.inj H
    exact absurd hT_.out (by simp)

end Go.Proofs.Ytbhideabefjadaa.IAll
