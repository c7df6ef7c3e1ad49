-- Written by the program wip/gen/inj.py of this repository, out of the translation, for this claim. Not trusted: Lean checks it.
import Derived.Test.YtpjenhojldcmiaaIAllx0
import Derived.Test.YtpjenhojldcmiaaIAllx3
import Derived.Test.YtpjenhojldcmiaaIAllx5
import Derived.Test.YtpjenhojldcmiaaIAllx9
import Derived.Test.YtpjenhojldcmiaaIAllx12
import Derived.Test.YtpjenhojldcmiaaIAllx13
namespace Go.Proofs.Ytpjenhojldcmiaa.IAll
open Go.RowKit Go.Proofs.YtpjenhojldcmiaaW.PrintWords Go.Proofs.YtpjenhojldcmiaaW.PrintLast Go.Proofs.YtpjenhojldcmiaaW.PrintMore
attribute [local go_sem] max2_int min2_int max_two min_two max_three min_three max_four min_four   -- for this text's walks alone
set_option linter.unusedVariables false
set_option linter.unusedSimpArgs false

attribute [local go_sem high] eqA31
/-! ### crierlaw14_CpuifThrough: function 6 -/
mutual
def crierlaw14_CpuifThrough.j0 : Nat → List (S31) → Bool → Bool → Bool → Int → Int → Int → Bool → Bool → Bool → Int → Int → Int → Int → Int → Bool → Option (Bool)
  | 0, _, _, _, _, _, _, _, _, _, _, _, _, _, _, _, _ => none
  | k + 1, x1, x5, x7, x34, x278000, x278001, x278002, x278003, x278004, x278005, x278006, x278007, x285000, x285001, x285002, x285003 => if x34 = true then (some false) else (crierlaw14_CpuifThrough.l0 k x1 x5 x7 false 0 x278000 x278001 x278002 x278003 x278004 x278005 x278006 x278007 x285000 x285001 x285002 x285003)
def crierlaw14_CpuifThrough.l0 : Nat → List (S31) → Bool → Bool → Bool → Int → Int → Int → Int → Bool → Bool → Bool → Int → Int → Int → Int → Int → Bool → Option (Bool)
  | 0, _, _, _, _, _, _, _, _, _, _, _, _, _, _, _, _, _ => none
  | k + 1, x1, x5, x7, x8, x9, x278000, x278001, x278002, x278003, x278004, x278005, x278006, x278007, x285000, x285001, x285002, x285003 => if x9 < (x1.length : Int) then (if 0 ≤ x9 then ((cpuif_If_May.f x278000 x278001 x278002 x278003 x278004 x278005 x278006 x278007 ((rd_T31 x1 x9).f0) ((rd_T31 x1 x9).f1) ((rd_T31 x1 x9).f2) ((rd_T31 x1 x9).f3)).bind fun t287 => (if t287 = true then (if x7 = true then ((crierref06_Before.f ((rd_T31 x1 x9).f1) ((rd_T31 x1 x9).f0) x285001 x285000).bind fun t290 => (if t290 = true then (some false) else (if x8 = true then (crierlaw14_CpuifThrough.l0 k x1 x5 x7 true (wrap64 (x9 + 1)) x278000 x278001 x278002 x278003 x278004 x278005 x278006 x278007 x285000 x285001 x285002 x285003) else (crierlaw14_CpuifThrough.l0 k x1 x5 x7 (((rd_T31 x1 x9).f0) == x285000 && (((rd_T31 x1 x9).f1) == x285001 && (((rd_T31 x1 x9).f2) == x285002 && (((rd_T31 x1 x9).f3) == x285003)))) (wrap64 (x9 + 1)) x278000 x278001 x278002 x278003 x278004 x278005 x278006 x278007 x285000 x285001 x285002 x285003)))) else (some false)) else (crierlaw14_CpuifThrough.l0 k x1 x5 x7 x8 (wrap64 (x9 + 1)) x278000 x278001 x278002 x278003 x278004 x278005 x278006 x278007 x285000 x285001 x285002 x285003))) else (none)) else (if x5 = true then (some (x8 == x7)) else (some false))
end
def crierlaw14_CpuifThrough.f (k : Nat) (a0_0 : Int) (a0_1 : Int) (a0_2 : Int) (a0_3 : Bool) (a0_4 : Bool) (a0_5 : Bool) (a0_6 : Int) (a0_7 : Int) (l1 : List (S31)) : Option (Bool) := (crierlaw14_awake.f).bind fun t278 => (if t278 = true then ((cpuif_If_Through.f k a0_0 a0_1 a0_2 a0_3 a0_4 a0_5 a0_6 a0_7 l1).bind fun bt279 => (if bt279.2.2.2.2 = true then ((cpuif_If_May.f a0_0 a0_1 a0_2 a0_3 a0_4 a0_5 a0_6 a0_7 bt279.1 bt279.2.1 bt279.2.2.1 bt279.2.2.2.1).bind fun t285 => (if t285 = true then (crierlaw14_CpuifThrough.j0 k l1 t278 bt279.2.2.2.2 false a0_0 a0_1 a0_2 a0_3 a0_4 a0_5 a0_6 a0_7 bt279.1 bt279.2.1 bt279.2.2.1 bt279.2.2.2.1) else (crierlaw14_CpuifThrough.j0 k l1 t278 bt279.2.2.2.2 true a0_0 a0_1 a0_2 a0_3 a0_4 a0_5 a0_6 a0_7 bt279.1 bt279.2.1 bt279.2.2.1 bt279.2.2.2.1))) else (crierlaw14_CpuifThrough.j0 k l1 t278 bt279.2.2.2.2 (!(bt279.1 == 0) || (!(bt279.2.1 == 0) || (!(bt279.2.2.1 == 0) || (bt279.2.2.2.1)))) a0_0 a0_1 a0_2 a0_3 a0_4 a0_5 a0_6 a0_7 bt279.1 bt279.2.1 bt279.2.2.1 bt279.2.2.2.1))) else (some false))
theorem crierlaw14_CpuifThrough.mono_l : ∀ k, (∀ y0 y1 y2 y3 y4 y5 y6 y7 y8 y9 y10 y11 y12 y13 y14 y15, LeO (crierlaw14_CpuifThrough.j0 k y0 y1 y2 y3 y4 y5 y6 y7 y8 y9 y10 y11 y12 y13 y14 y15) (crierlaw14_CpuifThrough.j0 (k + 1) y0 y1 y2 y3 y4 y5 y6 y7 y8 y9 y10 y11 y12 y13 y14 y15)) ∧ (∀ y0 y1 y2 y3 y4 y5 y6 y7 y8 y9 y10 y11 y12 y13 y14 y15 y16, LeO (crierlaw14_CpuifThrough.l0 k y0 y1 y2 y3 y4 y5 y6 y7 y8 y9 y10 y11 y12 y13 y14 y15 y16) (crierlaw14_CpuifThrough.l0 (k + 1) y0 y1 y2 y3 y4 y5 y6 y7 y8 y9 y10 y11 y12 y13 y14 y15 y16))
  | 0 => ⟨fun _ _ _ _ _ _ _ _ _ _ _ _ _ _ _ _ r h => by simp [crierlaw14_CpuifThrough.j0] at h, fun _ _ _ _ _ _ _ _ _ _ _ _ _ _ _ _ _ r h => by simp [crierlaw14_CpuifThrough.l0] at h⟩
  | k + 1 => by
    obtain ⟨ih0, ih1⟩ := crierlaw14_CpuifThrough.mono_l k
    refine ⟨?_, ?_⟩
    · intro y0 y1 y2 y3 y4 y5 y6 y7 y8 y9 y10 y11 y12 y13 y14 y15
      unfold crierlaw14_CpuifThrough.j0
      repeat' first
      | (with_reducible exact ih0 _ _ _ _ _ _ _ _ _ _ _ _ _ _ _ _)
      | (with_reducible exact ih1 _ _ _ _ _ _ _ _ _ _ _ _ _ _ _ _ _)
      | (with_reducible exact cpuif_If_Through.mono _ _ _ _ _ _ _ _ _ _)
      | (with_reducible exact LeO.refl _)
      | (with_reducible exact LeO.none _)
      | (with_reducible refine LeO.ite ?_ ?_)
      | (with_reducible refine LeO.bind ?_ (fun _ => ?_))
      | exact ih0 _ _ _ _ _ _ _ _ _ _ _ _ _ _ _ _
      | exact ih1 _ _ _ _ _ _ _ _ _ _ _ _ _ _ _ _ _
      | exact cpuif_If_Through.mono _ _ _ _ _ _ _ _ _ _
      | exact LeO.none _
      | refine LeO.ite ?_ ?_
      | refine LeO.bind ?_ (fun _ => ?_)
    · intro y0 y1 y2 y3 y4 y5 y6 y7 y8 y9 y10 y11 y12 y13 y14 y15 y16
      unfold crierlaw14_CpuifThrough.l0
      repeat' first
      | (with_reducible exact ih0 _ _ _ _ _ _ _ _ _ _ _ _ _ _ _ _)
      | (with_reducible exact ih1 _ _ _ _ _ _ _ _ _ _ _ _ _ _ _ _ _)
      | (with_reducible exact cpuif_If_Through.mono _ _ _ _ _ _ _ _ _ _)
      | (with_reducible exact LeO.refl _)
      | (with_reducible exact LeO.none _)
      | (with_reducible refine LeO.ite ?_ ?_)
      | (with_reducible refine LeO.bind ?_ (fun _ => ?_))
      | exact ih0 _ _ _ _ _ _ _ _ _ _ _ _ _ _ _ _
      | exact ih1 _ _ _ _ _ _ _ _ _ _ _ _ _ _ _ _ _
      | exact cpuif_If_Through.mono _ _ _ _ _ _ _ _ _ _
      | exact LeO.none _
      | refine LeO.ite ?_ ?_
      | refine LeO.bind ?_ (fun _ => ?_)
theorem crierlaw14_CpuifThrough.mono : ∀ a0 a1 a2 a3 a4 a5 a6 a7 a8 k, LeO (crierlaw14_CpuifThrough.f k a0 a1 a2 a3 a4 a5 a6 a7 a8) (crierlaw14_CpuifThrough.f (k + 1) a0 a1 a2 a3 a4 a5 a6 a7 a8) := by
  intro a0 a1 a2 a3 a4 a5 a6 a7 a8 k
  obtain ⟨ih0, ih1⟩ := crierlaw14_CpuifThrough.mono_l k
  unfold crierlaw14_CpuifThrough.f
  repeat' first
      | (with_reducible exact ih0 _ _ _ _ _ _ _ _ _ _ _ _ _ _ _ _)
      | (with_reducible exact ih1 _ _ _ _ _ _ _ _ _ _ _ _ _ _ _ _ _)
      | (with_reducible exact cpuif_If_Through.mono _ _ _ _ _ _ _ _ _ _)
      | (with_reducible exact LeO.refl _)
      | (with_reducible exact LeO.none _)
      | (with_reducible refine LeO.ite ?_ ?_)
      | (with_reducible refine LeO.bind ?_ (fun _ => ?_))
      | exact ih0 _ _ _ _ _ _ _ _ _ _ _ _ _ _ _ _
      | exact ih1 _ _ _ _ _ _ _ _ _ _ _ _ _ _ _ _ _
      | exact cpuif_If_Through.mono _ _ _ _ _ _ _ _ _ _
      | exact LeO.none _
      | refine LeO.ite ?_ ?_
      | refine LeO.bind ?_ (fun _ => ?_)
def crierlaw14_CpuifThrough.T12 : Bool × List (List Nat × List Nat) := (true, [([], []), ([0], [0]), ([1], [1]), ([2], [2]), ([2], [2]), ([3, 4, 2], [2, 3, 4]), ([5, 2], [2, 5]), ([6, 2], [2, 6]), ([2], [2]), ([2], [2]), ([8, 9, 2], [2, 8, 9]), ([10, 2], [2, 10]), ([11, 2], [2, 11]), ([2], [2]), ([13, 2], [2, 13]), ([2], [2]), ([15, 2], [2, 15]), ([7, 12, 14, 16, 2, 2], [2, 7, 12, 14, 16]), ([2, 17], [2, 17])])
def crierlaw14_CpuifThrough.B12 : List Nat := [0, 1, 3, 7, 7, 31, 63, 127, 7, 7, 775, 1799, 3847, 7, 8199, 7, 32775, 131071, 262143]
theorem crierlaw14_CpuifThrough.tab12 : rtab .any (opsOf Try.f6 12) = crierlaw14_CpuifThrough.T12 := by kernel_rfl
theorem crierlaw14_CpuifThrough.bits12 : waitsOk crierlaw14_CpuifThrough.T12.2 crierlaw14_CpuifThrough.B12 = true := by kernel_rfl
def crierlaw14_CpuifThrough.T14 : Bool × List (List Nat × List Nat) := (true, [([], []), ([0], [0]), ([1], [1]), ([1], [1]), ([2, 3, 1], [1, 2, 3]), ([4, 1], [1, 4]), ([1], [1]), ([5, 6, 1], [1, 5, 6]), ([1, 7], [1, 7]), ([8, 1, 0, 1, 2, 3, 4, 5, 6, 7, 8], [0, 8])])
def crierlaw14_CpuifThrough.B14 : List Nat := [0, 1, 3, 3, 15, 31, 3, 127, 255, 511]
theorem crierlaw14_CpuifThrough.tab14 : rtab .any (opsOf Try.f6 14) = crierlaw14_CpuifThrough.T14 := by kernel_rfl
theorem crierlaw14_CpuifThrough.bits14 : waitsOk crierlaw14_CpuifThrough.T14.2 crierlaw14_CpuifThrough.B14 = true := by kernel_rfl
set_option maxHeartbeats 8000000 in
set_option maxRecDepth 100000 in
theorem crierlaw14_CpuifThrough.calls (k : Nat) (a0_0 : Int) (a0_1 : Int) (a0_2 : Int) (a0_3 : Bool) (a0_4 : Bool) (a0_5 : Bool) (a0_6 : Int) (a0_7 : Int) (A1 : Option Addr) (c1 : Nat) (l1 : List (S31)) (r : Bool) (w : World) (hr1 : Kd.C k31 w A1 l1.length l1) (hc1 : l1.length ≤ c1) (h : crierlaw14_CpuifThrough.f k a0_0 a0_1 a0_2 a0_3 a0_4 a0_5 a0_6 a0_7 l1 = some r) (hT_ : Aside0 (r = true)) :
    Calls Try.prog 6 #[.agg #[.int .i64 a0_0, .int .i64 a0_1, .int .i64 a0_2, .bool a0_3, .bool a0_4, .bool a0_5, .int .u32 a0_6, .int .u32 a0_7], .slice A1 l1.length c1] w fun e w' => e = .returned (.bool r) ∧ Below w.heap.size w w' := by
  have hu29 := Try.underlying29
  have hu31 := Try.underlying31
  have HR1 := Aside0.mk hr1
  have HC1 := Aside0.mk hc1
  clear hr1 hc1
  have HB := Aside0.mk (Below.refl w.heap.size w)
  have H : ((crierlaw14_awake.f).bind fun t278 => (if t278 = true then ((cpuif_If_Through.f k a0_0 a0_1 a0_2 a0_3 a0_4 a0_5 a0_6 a0_7 l1).bind fun bt279 => (if bt279.2.2.2.2 = true then ((cpuif_If_May.f a0_0 a0_1 a0_2 a0_3 a0_4 a0_5 a0_6 a0_7 bt279.1 bt279.2.1 bt279.2.2.1 bt279.2.2.2.1).bind fun t285 => (if t285 = true then (crierlaw14_CpuifThrough.j0 k l1 t278 bt279.2.2.2.2 false a0_0 a0_1 a0_2 a0_3 a0_4 a0_5 a0_6 a0_7 bt279.1 bt279.2.1 bt279.2.2.1 bt279.2.2.2.1) else (crierlaw14_CpuifThrough.j0 k l1 t278 bt279.2.2.2.2 true a0_0 a0_1 a0_2 a0_3 a0_4 a0_5 a0_6 a0_7 bt279.1 bt279.2.1 bt279.2.2.1 bt279.2.2.2.1))) else (crierlaw14_CpuifThrough.j0 k l1 t278 bt279.2.2.2.2 (!(bt279.1 == 0) || (!(bt279.2.1 == 0) || (!(bt279.2.2.1 == 0) || (bt279.2.2.2.1)))) a0_0 a0_1 a0_2 a0_3 a0_4 a0_5 a0_6 a0_7 bt279.1 bt279.2.1 bt279.2.2.1 bt279.2.2.2.1))) else (some false))) = some r := h
  clear h
  replace H := Option.bind_eq_some_iff.mp H
  obtain ⟨t278, A30, H⟩ := H
  replace H : (if t278 = true then ((cpuif_If_Through.f k a0_0 a0_1 a0_2 a0_3 a0_4 a0_5 a0_6 a0_7 l1).bind fun bt279 => (if bt279.2.2.2.2 = true then ((cpuif_If_May.f a0_0 a0_1 a0_2 a0_3 a0_4 a0_5 a0_6 a0_7 bt279.1 bt279.2.1 bt279.2.2.1 bt279.2.2.2.1).bind fun t285 => (if t285 = true then (crierlaw14_CpuifThrough.j0 k l1 t278 bt279.2.2.2.2 false a0_0 a0_1 a0_2 a0_3 a0_4 a0_5 a0_6 a0_7 bt279.1 bt279.2.1 bt279.2.2.1 bt279.2.2.2.1) else (crierlaw14_CpuifThrough.j0 k l1 t278 bt279.2.2.2.2 true a0_0 a0_1 a0_2 a0_3 a0_4 a0_5 a0_6 a0_7 bt279.1 bt279.2.1 bt279.2.2.1 bt279.2.2.2.1))) else (crierlaw14_CpuifThrough.j0 k l1 t278 bt279.2.2.2.2 (!(bt279.1 == 0) || (!(bt279.2.1 == 0) || (!(bt279.2.2.1 == 0) || (bt279.2.2.2.1)))) a0_0 a0_1 a0_2 a0_3 a0_4 a0_5 a0_6 a0_7 bt279.1 bt279.2.1 bt279.2.2.1 bt279.2.2.2.1))) else (some false)) = some r := H
  have A3 := Aside0.mk A30
  clear A30
  by_cases c4 : t278 = true
  · subst c4
    have H1 : ((cpuif_If_Through.f k a0_0 a0_1 a0_2 a0_3 a0_4 a0_5 a0_6 a0_7 l1).bind fun bt279 => (if bt279.2.2.2.2 = true then ((cpuif_If_May.f a0_0 a0_1 a0_2 a0_3 a0_4 a0_5 a0_6 a0_7 bt279.1 bt279.2.1 bt279.2.2.1 bt279.2.2.2.1).bind fun t285 => (if t285 = true then (crierlaw14_CpuifThrough.j0 k l1 true bt279.2.2.2.2 false a0_0 a0_1 a0_2 a0_3 a0_4 a0_5 a0_6 a0_7 bt279.1 bt279.2.1 bt279.2.2.1 bt279.2.2.2.1) else (crierlaw14_CpuifThrough.j0 k l1 true bt279.2.2.2.2 true a0_0 a0_1 a0_2 a0_3 a0_4 a0_5 a0_6 a0_7 bt279.1 bt279.2.1 bt279.2.2.1 bt279.2.2.2.1))) else (crierlaw14_CpuifThrough.j0 k l1 true bt279.2.2.2.2 (!(bt279.1 == 0) || (!(bt279.2.1 == 0) || (!(bt279.2.2.1 == 0) || (bt279.2.2.2.1)))) a0_0 a0_1 a0_2 a0_3 a0_4 a0_5 a0_6 a0_7 bt279.1 bt279.2.1 bt279.2.2.1 bt279.2.2.2.1))) = some r := by first | (rw [if_pos rfl] at H; exact H) | (rw [if_pos trivial] at H; exact H)
    clear H
    have H := H1
    clear H1
    replace H := Option.bind_eq_some_iff.mp H
    obtain ⟨⟨t279, t280, t281, t282, t283⟩, A50, H⟩ := H
    replace H : (if t283 = true then ((cpuif_If_May.f a0_0 a0_1 a0_2 a0_3 a0_4 a0_5 a0_6 a0_7 t279 t280 t281 t282).bind fun t285 => (if t285 = true then (crierlaw14_CpuifThrough.j0 k l1 true t283 false a0_0 a0_1 a0_2 a0_3 a0_4 a0_5 a0_6 a0_7 t279 t280 t281 t282) else (crierlaw14_CpuifThrough.j0 k l1 true t283 true a0_0 a0_1 a0_2 a0_3 a0_4 a0_5 a0_6 a0_7 t279 t280 t281 t282))) else (crierlaw14_CpuifThrough.j0 k l1 true t283 (!(t279 == 0) || (!(t280 == 0) || (!(t281 == 0) || (t282)))) a0_0 a0_1 a0_2 a0_3 a0_4 a0_5 a0_6 a0_7 t279 t280 t281 t282)) = some r := H
    have A5 := Aside0.mk A50
    clear A50
    have HC6 := Aside0.mk H
    clear H
    go_enter Try.func6, Try.ntmps6
    go_upto_region 5 with (first | ((with_reducible refine gate_dst (N := 2) rfl ?_); refine box_event ?hg (N := 2) ?hd (cs := #[.int .i64 a0_0, .int .i64 a0_1, .int .i64 a0_2, .bool a0_3, .bool a0_4, .bool a0_5, .int .u32 a0_6, .int .u32 a0_7]) (t := 29) ?hr ?_; (case hd => rfl); (case hg => rfl); (case hr => first | (go_simp; done) | (go_simp; rfl)); intro gb277 hg w7 hbox hb; have n0_ := Aside0.mk (below_step (by repeat (first | (with_reducible first | exact HB.out | apply below_alloc | apply pw_below_drewN | apply below_drew1) | exact HB.out)) hb); have n1_ := Aside0.mk (hbox); have n2_ := Aside0.mk ((by rw [hg]; exact (below_size (by repeat (first | (with_reducible first | exact HB.out | apply below_alloc | apply pw_below_drewN | apply below_drew1) | exact HB.out))) : w.heap.size ≤ gb277)); have n3_ := Aside0.mk ((by rw [hg]; exact (below_size (by repeat (first | (with_reducible first | exact HB.out | apply below_alloc | apply pw_below_drewN | apply below_drew1) | exact HB.out))) : w.heap.size ≤ gb277)); clear HB; have HB := n0_; have BK277 := n1_; have GW277 := n2_; have GE277 := n3_; clear n0_ n1_ n2_ n3_; clear hb hbox hg) | ((with_reducible refine gate_callee (f := 9) rfl ?_); refine goesL_ (some 10) rfl rfl Try.func9 (by kernel_rfl) rfl #[] rfl (by (try simp only [List.map_toArray, List.map_cons, List.map_nil]); first | done | rfl | (simp only [List.length_drop, List.length_take]; rfl)) ?_; (with_reducible refine (crierlaw14_awake.calls  true _ A3.out).mono ?_); rintro e w8 ⟨rfl, hb⟩; refine ⟨_, rfl, ?_⟩; have n0_ := Aside0.mk (blk_below (g := gb277) (o := .cells #[.int .i64 a0_0, .int .i64 a0_1, .int .i64 a0_2, .bool a0_3, .bool a0_4, .bool a0_5, .int .u32 a0_6, .int .u32 a0_7] 29 (0, 0)) BK277.out hb); have n1_ := Aside0.mk (below_step (by repeat (first | (with_reducible first | exact HB.out | apply below_alloc | apply pw_below_drewN | apply below_drew1 | refine below_set ?_ GE277.out) | exact HB.out)) hb); clear BK277; clear HB; have BK277 := n0_; have HB := n1_; clear n0_ n1_; (try clear hb); (try clear hb2); (try clear hk); (try clear hi); have hcz9_0 : w8.cell? ⟨gb277, 0, none⟩ = some (.int .i64 a0_0) := (blk_cell BK277.out 0).trans rfl; have hcz9_1 : w8.cell? ⟨gb277, 1, none⟩ = some (.int .i64 a0_1) := (blk_cell BK277.out 1).trans rfl; have hcz9_2 : w8.cell? ⟨gb277, 2, none⟩ = some (.int .i64 a0_2) := (blk_cell BK277.out 2).trans rfl; have hcz9_3 : w8.cell? ⟨gb277, 3, none⟩ = some (.bool a0_3) := (blk_cell BK277.out 3).trans rfl; have hcz9_4 : w8.cell? ⟨gb277, 4, none⟩ = some (.bool a0_4) := (blk_cell BK277.out 4).trans rfl; have hcz9_5 : w8.cell? ⟨gb277, 5, none⟩ = some (.bool a0_5) := (blk_cell BK277.out 5).trans rfl; have hcz9_6 : w8.cell? ⟨gb277, 6, none⟩ = some (.int .u32 a0_6) := (blk_cell BK277.out 6).trans rfl; have hcz9_7 : w8.cell? ⟨gb277, 7, none⟩ = some (.int .u32 a0_7) := (blk_cell BK277.out 7).trans rfl; have hfz9_0 := blk_frozen BK277.out 0; have hfz9_1 := blk_frozen BK277.out 1; have hfz9_2 := blk_frozen BK277.out 2; have hfz9_3 := blk_frozen BK277.out 3; have hfz9_4 := blk_frozen BK277.out 4; have hfz9_5 := blk_frozen BK277.out 5; have hfz9_6 := blk_frozen BK277.out 6; have hfz9_7 := blk_frozen BK277.out 7) | ((with_reducible refine gate_callee (f := 17) rfl ?_); refine goesL_ (some 16) rfl rfl Try.func17 (by kernel_rfl) rfl #[.agg #[.int .i64 a0_0, .int .i64 a0_1, .int .i64 a0_2, .bool a0_3, .bool a0_4, .bool a0_5, .int .u32 a0_6, .int .u32 a0_7], .slice A1 l1.length c1] rfl (by (try simp only [List.map_toArray, List.map_cons, List.map_nil]); first | done | rfl | (simp only [List.length_drop, List.length_take]; rfl)) ?_; (with_reducible refine (cpuif_If_Through.calls k a0_0 a0_1 a0_2 a0_3 a0_4 a0_5 a0_6 a0_7 _ _ l1 t279 t280 t281 t282 t283 _ ?side1 ?side2 A5.out).mono ?_); (case side1 => repeat (first | exact (Kd.C_below HR1.out HB.out) | (with_reducible refine Kd.C_alloc ?_ _) | (with_reducible refine Kd.C_drewN ?_ _) | (with_reducible refine Kd.C_drew ?_))); (case side2 => exact HC1.out); rintro e w10 ⟨rfl, hb⟩; refine ⟨_, rfl, ?_⟩; have n0_ := Aside0.mk (blk_below (g := gb277) (o := .cells #[.int .i64 a0_0, .int .i64 a0_1, .int .i64 a0_2, .bool a0_3, .bool a0_4, .bool a0_5, .int .u32 a0_6, .int .u32 a0_7] 29 (0, 0)) BK277.out hb); have n1_ := Aside0.mk (below_step (by repeat (first | (with_reducible first | exact HB.out | apply below_alloc | apply pw_below_drewN | apply below_drew1 | refine below_set ?_ GE277.out) | exact HB.out)) hb); clear BK277; clear HB; have BK277 := n0_; have HB := n1_; clear n0_ n1_; (try clear hb); (try clear hb2); (try clear hk); (try clear hi)) | ((with_reducible refine gate_dst (N := 6) rfl ?_); refine box_event ?hg (N := 6) ?hd (cs := #[.int .i64 0, .int .i64 0, .int .i64 0, .bool false]) (t := 31) ?hr ?_; (case hd => rfl); (case hg => rfl); (case hr => first | (go_simp; done) | (go_simp; rfl)); intro gb284 hg w11 hbox hb; have n0_ := Aside0.mk (blk_below (g := gb277) (o := .cells #[.int .i64 a0_0, .int .i64 a0_1, .int .i64 a0_2, .bool a0_3, .bool a0_4, .bool a0_5, .int .u32 a0_6, .int .u32 a0_7] 29 (0, 0)) BK277.out hb); have n1_ := Aside0.mk (below_step (by repeat (first | (with_reducible first | exact HB.out | apply below_alloc | apply pw_below_drewN | apply below_drew1 | refine below_set ?_ GE277.out) | exact HB.out)) hb); have n2_ := Aside0.mk (hbox); have n3_ := Aside0.mk ((by rw [hg]; exact (below_size (by repeat (first | (with_reducible first | exact HB.out | apply below_alloc | apply pw_below_drewN | apply below_drew1 | refine below_set ?_ GE277.out) | exact HB.out))) : w.heap.size ≤ gb284)); have n4_ := Aside0.mk ((by rw [hg]; exact (below_size (by repeat (first | (with_reducible first | exact HB.out | apply below_alloc | apply pw_below_drewN | apply below_drew1 | refine below_set ?_ GE277.out) | exact HB.out))) : w.heap.size ≤ gb284)); have n5_ := Aside0.mk ((by rw [hg]; exact Nat.ne_of_lt (blk_lt (g := gb277) (o := .cells #[.int .i64 a0_0, .int .i64 a0_1, .int .i64 a0_2, .bool a0_3, .bool a0_4, .bool a0_5, .int .u32 a0_6, .int .u32 a0_7] 29 (0, 0)) BK277.out) : gb277 ≠ gb284)); have n6_ := Aside0.mk ((by rw [hg]; exact Nat.ne_of_gt (blk_lt (g := gb277) (o := .cells #[.int .i64 a0_0, .int .i64 a0_1, .int .i64 a0_2, .bool a0_3, .bool a0_4, .bool a0_5, .int .u32 a0_6, .int .u32 a0_7] 29 (0, 0)) BK277.out) : gb284 ≠ gb277)); clear BK277; clear HB; have BK277 := n0_; have HB := n1_; have BK284 := n2_; have GW284 := n3_; have GE284 := n4_; have NB277_284 := n5_; have NB284_277 := n6_; clear n0_ n1_ n2_ n3_ n4_ n5_ n6_; clear hb hbox hg; have hnb12 := NB284_277.out; have hnc12 := NB277_284.out; have hcz13_0 : w11.cell? ⟨gb284, 0, none⟩ = some (.int .i64 0) := (blk_cell BK284.out 0).trans rfl; have hcz13_1 : w11.cell? ⟨gb284, 1, none⟩ = some (.int .i64 0) := (blk_cell BK284.out 1).trans rfl; have hcz13_2 : w11.cell? ⟨gb284, 2, none⟩ = some (.int .i64 0) := (blk_cell BK284.out 2).trans rfl; have hcz13_3 : w11.cell? ⟨gb284, 3, none⟩ = some (.bool false) := (blk_cell BK284.out 3).trans rfl; have hfz13_0 := blk_frozen BK284.out 0; have hfz13_1 := blk_frozen BK284.out 1; have hfz13_2 := blk_frozen BK284.out 2; have hfz13_3 := blk_frozen BK284.out 3))
    (try simp only [Act.put, List.setIfInBounds_toArray, List.set_cons_zero, List.set_cons_succ])
    go_cut [34] (fun v34 wc => ∃ (kq : Nat) (x34_5 : Bool), v34 = .bool x34_5 ∧ Aside0 (crierlaw14_CpuifThrough.j0 kq l1 true t283 x34_5 a0_0 a0_1 a0_2 a0_3 a0_4 a0_5 a0_6 a0_7 t279 t280 t281 t282 = some r) ∧ Aside0 (kq ≤ k) ∧ Aside0 (wc.heap[gb277]? = some (.cells #[.int .i64 a0_0, .int .i64 a0_1, .int .i64 a0_2, .bool a0_3, .bool a0_4, .bool a0_5, .int .u32 a0_6, .int .u32 a0_7] 29 (0, 0))) ∧ Aside0 (wc.heap[gb284]? = some (.cells #[.int .i64 t279, .int .i64 t280, .int .i64 t281, .bool t282] 31 (0, 0))) ∧ Aside0 (Below w.heap.size w wc))
    case first =>
      have H := HC6.out
      clear HC6
      by_cases c14 : t283 = true
      · subst c14
        have H1 : ((cpuif_If_May.f a0_0 a0_1 a0_2 a0_3 a0_4 a0_5 a0_6 a0_7 t279 t280 t281 t282).bind fun t285 => (if t285 = true then (crierlaw14_CpuifThrough.j0 k l1 true true false a0_0 a0_1 a0_2 a0_3 a0_4 a0_5 a0_6 a0_7 t279 t280 t281 t282) else (crierlaw14_CpuifThrough.j0 k l1 true true true a0_0 a0_1 a0_2 a0_3 a0_4 a0_5 a0_6 a0_7 t279 t280 t281 t282))) = some r := by first | (rw [if_pos rfl] at H; exact H) | (rw [if_pos trivial] at H; exact H)
        clear H
        have H := H1
        clear H1
        replace H := Option.bind_eq_some_iff.mp H
        obtain ⟨t285, A150, H⟩ := H
        replace H : (if t285 = true then (crierlaw14_CpuifThrough.j0 k l1 true true false a0_0 a0_1 a0_2 a0_3 a0_4 a0_5 a0_6 a0_7 t279 t280 t281 t282) else (crierlaw14_CpuifThrough.j0 k l1 true true true a0_0 a0_1 a0_2 a0_3 a0_4 a0_5 a0_6 a0_7 t279 t280 t281 t282)) = some r := H
        have A15 := Aside0.mk A150
        clear A150
        by_cases c16 : t285 = true
        · subst c16
          have H1 : (crierlaw14_CpuifThrough.j0 k l1 true true false a0_0 a0_1 a0_2 a0_3 a0_4 a0_5 a0_6 a0_7 t279 t280 t281 t282) = some r := by first | (rw [if_pos rfl] at H; exact H) | (rw [if_pos trivial] at H; exact H)
          clear H
          have H := H1
          clear H1
          have H' := Aside0.mk H
          clear H
          have hnb17 := NB277_284.out
          have hnc17 := NB284_277.out
          have hcz18_0 : w11.cell? ⟨gb277, 0, none⟩ = some (.int .i64 a0_0) := (blk_cell BK277.out 0).trans rfl
          have hcz18_1 : w11.cell? ⟨gb277, 1, none⟩ = some (.int .i64 a0_1) := (blk_cell BK277.out 1).trans rfl
          have hcz18_2 : w11.cell? ⟨gb277, 2, none⟩ = some (.int .i64 a0_2) := (blk_cell BK277.out 2).trans rfl
          have hcz18_3 : w11.cell? ⟨gb277, 3, none⟩ = some (.bool a0_3) := (blk_cell BK277.out 3).trans rfl
          have hcz18_4 : w11.cell? ⟨gb277, 4, none⟩ = some (.bool a0_4) := (blk_cell BK277.out 4).trans rfl
          have hcz18_5 : w11.cell? ⟨gb277, 5, none⟩ = some (.bool a0_5) := (blk_cell BK277.out 5).trans rfl
          have hcz18_6 : w11.cell? ⟨gb277, 6, none⟩ = some (.int .u32 a0_6) := (blk_cell BK277.out 6).trans rfl
          have hcz18_7 : w11.cell? ⟨gb277, 7, none⟩ = some (.int .u32 a0_7) := (blk_cell BK277.out 7).trans rfl
          have hfz18_0 := blk_frozen BK277.out 0
          have hfz18_1 := blk_frozen BK277.out 1
          have hfz18_2 := blk_frozen BK277.out 2
          have hfz18_3 := blk_frozen BK277.out 3
          have hfz18_4 := blk_frozen BK277.out 4
          have hfz18_5 := blk_frozen BK277.out 5
          have hfz18_6 := blk_frozen BK277.out 6
          have hfz18_7 := blk_frozen BK277.out 7
          have hcz19_0 : w11.cell? ⟨gb284, 0, none⟩ = some (.int .i64 0) := (blk_cell BK284.out 0).trans rfl
          have hcz19_1 : w11.cell? ⟨gb284, 1, none⟩ = some (.int .i64 0) := (blk_cell BK284.out 1).trans rfl
          have hcz19_2 : w11.cell? ⟨gb284, 2, none⟩ = some (.int .i64 0) := (blk_cell BK284.out 2).trans rfl
          have hcz19_3 : w11.cell? ⟨gb284, 3, none⟩ = some (.bool false) := (blk_cell BK284.out 3).trans rfl
          have hfz19_0 := blk_frozen BK284.out 0
          have hfz19_1 := blk_frozen BK284.out 1
          have hfz19_2 := blk_frozen BK284.out 2
          have hfz19_3 := blk_frozen BK284.out 3
          go_wp2_with (first | (go_at_call 13; (with_reducible refine (cpuif_If_May.calls a0_0 a0_1 a0_2 a0_3 a0_4 a0_5 a0_6 a0_7 t279 t280 t281 t282 true _ A15.out).mono ?_); rintro e w20 ⟨rfl, hb⟩; have n0_ := Aside0.mk (blk_below (g := gb277) (o := .cells #[.int .i64 a0_0, .int .i64 a0_1, .int .i64 a0_2, .bool a0_3, .bool a0_4, .bool a0_5, .int .u32 a0_6, .int .u32 a0_7] 29 (0, 0)) (by (with_reducible repeat (first | refine blk_drewN ?_ _ | refine blk_drew ?_ | refine blk_alloc ?_ _)); refine blk_far ?_ NB277_284.out _; (with_reducible repeat (first | refine blk_drewN ?_ _ | refine blk_drew ?_ | refine blk_alloc ?_ _)); refine blk_far ?_ NB277_284.out _; (with_reducible repeat (first | refine blk_drewN ?_ _ | refine blk_drew ?_ | refine blk_alloc ?_ _)); refine blk_far ?_ NB277_284.out _; (with_reducible repeat (first | refine blk_drewN ?_ _ | refine blk_drew ?_ | refine blk_alloc ?_ _)); refine blk_far ?_ NB277_284.out _; (with_reducible repeat (first | refine blk_drewN ?_ _ | refine blk_drew ?_ | refine blk_alloc ?_ _)); exact BK277.out) hb); have n1_ := Aside0.mk (blk_below (g := gb284) (o := .cells #[.int .i64 t279, .int .i64 t280, .int .i64 t281, .bool t282] 31 (0, 0)) (by (with_reducible repeat (first | refine blk_drewN ?_ _ | refine blk_drew ?_ | refine blk_alloc ?_ _)); refine blk_put (cs := #[.int .i64 t279, .int .i64 t280, .int .i64 t281, .bool false]) ?_ 3 _ rfl; (with_reducible repeat (first | refine blk_drewN ?_ _ | refine blk_drew ?_ | refine blk_alloc ?_ _)); refine blk_put (cs := #[.int .i64 t279, .int .i64 t280, .int .i64 0, .bool false]) ?_ 2 _ rfl; (with_reducible repeat (first | refine blk_drewN ?_ _ | refine blk_drew ?_ | refine blk_alloc ?_ _)); refine blk_put (cs := #[.int .i64 t279, .int .i64 0, .int .i64 0, .bool false]) ?_ 1 _ rfl; (with_reducible repeat (first | refine blk_drewN ?_ _ | refine blk_drew ?_ | refine blk_alloc ?_ _)); refine blk_put (cs := #[.int .i64 0, .int .i64 0, .int .i64 0, .bool false]) ?_ 0 _ rfl; (with_reducible repeat (first | refine blk_drewN ?_ _ | refine blk_drew ?_ | refine blk_alloc ?_ _)); exact BK284.out) hb); have n2_ := Aside0.mk (below_step (by repeat (first | (with_reducible first | exact HB.out | apply below_alloc | apply pw_below_drewN | apply below_drew1 | refine below_set ?_ GE277.out | refine below_set ?_ GE284.out) | exact HB.out)) hb); clear BK277; clear BK284; clear HB; have BK277 := n0_; have BK284 := n1_; have HB := n2_; clear n0_ n1_ n2_; (try clear hb); (try clear hb2); (try clear hk); (try clear hi)))
          go_meet
          case rel => exact ⟨_, (false), (by first | rfl | (simp; done) | (simp [*]; done) | (simp; exact (IntWalk.wrap64_in _ (by decide)).symm)), H', ⟨by first | omega | exact Nat.le_refl _⟩, ⟨by (with_reducible repeat (first | refine blk_drewN ?_ _ | refine blk_drew ?_ | refine blk_alloc ?_ _)); exact BK277.out⟩, ⟨by (with_reducible repeat (first | refine blk_drewN ?_ _ | refine blk_drew ?_ | refine blk_alloc ?_ _)); exact BK284.out⟩, ⟨by repeat (first | (with_reducible first | exact HB.out | apply below_alloc | apply pw_below_drewN | apply below_drew1 | refine below_set ?_ GE277.out | refine below_set ?_ GE284.out) | exact HB.out)⟩⟩
        · replace c16 := Bool.eq_false_iff.mpr c16
          subst c16
          have H1 : (crierlaw14_CpuifThrough.j0 k l1 true true true a0_0 a0_1 a0_2 a0_3 a0_4 a0_5 a0_6 a0_7 t279 t280 t281 t282) = some r := by rw [if_neg (show ¬ (false = true) by decide)] at H; exact H
          clear H
          have H := H1
          clear H1
          have H' := Aside0.mk H
          clear H
          have hnb21 := NB277_284.out
          have hnc21 := NB284_277.out
          have hcz22_0 : w11.cell? ⟨gb277, 0, none⟩ = some (.int .i64 a0_0) := (blk_cell BK277.out 0).trans rfl
          have hcz22_1 : w11.cell? ⟨gb277, 1, none⟩ = some (.int .i64 a0_1) := (blk_cell BK277.out 1).trans rfl
          have hcz22_2 : w11.cell? ⟨gb277, 2, none⟩ = some (.int .i64 a0_2) := (blk_cell BK277.out 2).trans rfl
          have hcz22_3 : w11.cell? ⟨gb277, 3, none⟩ = some (.bool a0_3) := (blk_cell BK277.out 3).trans rfl
          have hcz22_4 : w11.cell? ⟨gb277, 4, none⟩ = some (.bool a0_4) := (blk_cell BK277.out 4).trans rfl
          have hcz22_5 : w11.cell? ⟨gb277, 5, none⟩ = some (.bool a0_5) := (blk_cell BK277.out 5).trans rfl
          have hcz22_6 : w11.cell? ⟨gb277, 6, none⟩ = some (.int .u32 a0_6) := (blk_cell BK277.out 6).trans rfl
          have hcz22_7 : w11.cell? ⟨gb277, 7, none⟩ = some (.int .u32 a0_7) := (blk_cell BK277.out 7).trans rfl
          have hfz22_0 := blk_frozen BK277.out 0
          have hfz22_1 := blk_frozen BK277.out 1
          have hfz22_2 := blk_frozen BK277.out 2
          have hfz22_3 := blk_frozen BK277.out 3
          have hfz22_4 := blk_frozen BK277.out 4
          have hfz22_5 := blk_frozen BK277.out 5
          have hfz22_6 := blk_frozen BK277.out 6
          have hfz22_7 := blk_frozen BK277.out 7
          have hcz23_0 : w11.cell? ⟨gb284, 0, none⟩ = some (.int .i64 0) := (blk_cell BK284.out 0).trans rfl
          have hcz23_1 : w11.cell? ⟨gb284, 1, none⟩ = some (.int .i64 0) := (blk_cell BK284.out 1).trans rfl
          have hcz23_2 : w11.cell? ⟨gb284, 2, none⟩ = some (.int .i64 0) := (blk_cell BK284.out 2).trans rfl
          have hcz23_3 : w11.cell? ⟨gb284, 3, none⟩ = some (.bool false) := (blk_cell BK284.out 3).trans rfl
          have hfz23_0 := blk_frozen BK284.out 0
          have hfz23_1 := blk_frozen BK284.out 1
          have hfz23_2 := blk_frozen BK284.out 2
          have hfz23_3 := blk_frozen BK284.out 3
          go_wp2_with (first | (go_at_call 13; (with_reducible refine (cpuif_If_May.calls a0_0 a0_1 a0_2 a0_3 a0_4 a0_5 a0_6 a0_7 t279 t280 t281 t282 false _ A15.out).mono ?_); rintro e w24 ⟨rfl, hb⟩; have n0_ := Aside0.mk (blk_below (g := gb277) (o := .cells #[.int .i64 a0_0, .int .i64 a0_1, .int .i64 a0_2, .bool a0_3, .bool a0_4, .bool a0_5, .int .u32 a0_6, .int .u32 a0_7] 29 (0, 0)) (by (with_reducible repeat (first | refine blk_drewN ?_ _ | refine blk_drew ?_ | refine blk_alloc ?_ _)); refine blk_far ?_ NB277_284.out _; (with_reducible repeat (first | refine blk_drewN ?_ _ | refine blk_drew ?_ | refine blk_alloc ?_ _)); refine blk_far ?_ NB277_284.out _; (with_reducible repeat (first | refine blk_drewN ?_ _ | refine blk_drew ?_ | refine blk_alloc ?_ _)); refine blk_far ?_ NB277_284.out _; (with_reducible repeat (first | refine blk_drewN ?_ _ | refine blk_drew ?_ | refine blk_alloc ?_ _)); refine blk_far ?_ NB277_284.out _; (with_reducible repeat (first | refine blk_drewN ?_ _ | refine blk_drew ?_ | refine blk_alloc ?_ _)); exact BK277.out) hb); have n1_ := Aside0.mk (blk_below (g := gb284) (o := .cells #[.int .i64 t279, .int .i64 t280, .int .i64 t281, .bool t282] 31 (0, 0)) (by (with_reducible repeat (first | refine blk_drewN ?_ _ | refine blk_drew ?_ | refine blk_alloc ?_ _)); refine blk_put (cs := #[.int .i64 t279, .int .i64 t280, .int .i64 t281, .bool false]) ?_ 3 _ rfl; (with_reducible repeat (first | refine blk_drewN ?_ _ | refine blk_drew ?_ | refine blk_alloc ?_ _)); refine blk_put (cs := #[.int .i64 t279, .int .i64 t280, .int .i64 0, .bool false]) ?_ 2 _ rfl; (with_reducible repeat (first | refine blk_drewN ?_ _ | refine blk_drew ?_ | refine blk_alloc ?_ _)); refine blk_put (cs := #[.int .i64 t279, .int .i64 0, .int .i64 0, .bool false]) ?_ 1 _ rfl; (with_reducible repeat (first | refine blk_drewN ?_ _ | refine blk_drew ?_ | refine blk_alloc ?_ _)); refine blk_put (cs := #[.int .i64 0, .int .i64 0, .int .i64 0, .bool false]) ?_ 0 _ rfl; (with_reducible repeat (first | refine blk_drewN ?_ _ | refine blk_drew ?_ | refine blk_alloc ?_ _)); exact BK284.out) hb); have n2_ := Aside0.mk (below_step (by repeat (first | (with_reducible first | exact HB.out | apply below_alloc | apply pw_below_drewN | apply below_drew1 | refine below_set ?_ GE277.out | refine below_set ?_ GE284.out) | exact HB.out)) hb); clear BK277; clear BK284; clear HB; have BK277 := n0_; have BK284 := n1_; have HB := n2_; clear n0_ n1_ n2_; (try clear hb); (try clear hb2); (try clear hk); (try clear hi)))
          go_meet
          case rel => exact ⟨_, (true), (by first | rfl | (simp; done) | (simp [*]; done) | (simp; exact (IntWalk.wrap64_in _ (by decide)).symm)), H', ⟨by first | omega | exact Nat.le_refl _⟩, ⟨by (with_reducible repeat (first | refine blk_drewN ?_ _ | refine blk_drew ?_ | refine blk_alloc ?_ _)); exact BK277.out⟩, ⟨by (with_reducible repeat (first | refine blk_drewN ?_ _ | refine blk_drew ?_ | refine blk_alloc ?_ _)); exact BK284.out⟩, ⟨by repeat (first | (with_reducible first | exact HB.out | apply below_alloc | apply pw_below_drewN | apply below_drew1 | refine below_set ?_ GE277.out | refine below_set ?_ GE284.out) | exact HB.out)⟩⟩
      · replace c14 := Bool.eq_false_iff.mpr c14
        subst c14
        have H1 : (crierlaw14_CpuifThrough.j0 k l1 true false (!(t279 == 0) || (!(t280 == 0) || (!(t281 == 0) || (t282)))) a0_0 a0_1 a0_2 a0_3 a0_4 a0_5 a0_6 a0_7 t279 t280 t281 t282) = some r := by rw [if_neg (show ¬ (false = true) by decide)] at H; exact H
        clear H
        have H := H1
        clear H1
        have H' := Aside0.mk H
        clear H
        have hnb25 := NB284_277.out
        have hnc25 := NB277_284.out
        have hcz26_0 : w11.cell? ⟨gb284, 0, none⟩ = some (.int .i64 0) := (blk_cell BK284.out 0).trans rfl
        have hcz26_1 : w11.cell? ⟨gb284, 1, none⟩ = some (.int .i64 0) := (blk_cell BK284.out 1).trans rfl
        have hcz26_2 : w11.cell? ⟨gb284, 2, none⟩ = some (.int .i64 0) := (blk_cell BK284.out 2).trans rfl
        have hcz26_3 : w11.cell? ⟨gb284, 3, none⟩ = some (.bool false) := (blk_cell BK284.out 3).trans rfl
        have hfz26_0 := blk_frozen BK284.out 0
        have hfz26_1 := blk_frozen BK284.out 1
        have hfz26_2 := blk_frozen BK284.out 2
        have hfz26_3 := blk_frozen BK284.out 3
        go_wp2
        go_meet
        case rel => exact ⟨_, ((!(t279 == 0) || (!(t280 == 0) || (!(t281 == 0) || (t282))))), (by first | rfl | (simp; done) | (simp [*]; done) | (simp; exact (IntWalk.wrap64_in _ (by decide)).symm)), H', ⟨by first | omega | exact Nat.le_refl _⟩, ⟨by (with_reducible repeat (first | refine blk_drewN ?_ _ | refine blk_drew ?_ | refine blk_alloc ?_ _)); refine blk_far ?_ NB277_284.out _; (with_reducible repeat (first | refine blk_drewN ?_ _ | refine blk_drew ?_ | refine blk_alloc ?_ _)); refine blk_far ?_ NB277_284.out _; (with_reducible repeat (first | refine blk_drewN ?_ _ | refine blk_drew ?_ | refine blk_alloc ?_ _)); refine blk_far ?_ NB277_284.out _; (with_reducible repeat (first | refine blk_drewN ?_ _ | refine blk_drew ?_ | refine blk_alloc ?_ _)); refine blk_far ?_ NB277_284.out _; (with_reducible repeat (first | refine blk_drewN ?_ _ | refine blk_drew ?_ | refine blk_alloc ?_ _)); exact BK277.out⟩, ⟨by (with_reducible repeat (first | refine blk_drewN ?_ _ | refine blk_drew ?_ | refine blk_alloc ?_ _)); refine blk_put (cs := #[.int .i64 t279, .int .i64 t280, .int .i64 t281, .bool false]) ?_ 3 _ rfl; (with_reducible repeat (first | refine blk_drewN ?_ _ | refine blk_drew ?_ | refine blk_alloc ?_ _)); refine blk_put (cs := #[.int .i64 t279, .int .i64 t280, .int .i64 0, .bool false]) ?_ 2 _ rfl; (with_reducible repeat (first | refine blk_drewN ?_ _ | refine blk_drew ?_ | refine blk_alloc ?_ _)); refine blk_put (cs := #[.int .i64 t279, .int .i64 0, .int .i64 0, .bool false]) ?_ 1 _ rfl; (with_reducible repeat (first | refine blk_drewN ?_ _ | refine blk_drew ?_ | refine blk_alloc ?_ _)); refine blk_put (cs := #[.int .i64 0, .int .i64 0, .int .i64 0, .bool false]) ?_ 0 _ rfl; (with_reducible repeat (first | refine blk_drewN ?_ _ | refine blk_drew ?_ | refine blk_alloc ?_ _)); exact BK284.out⟩, ⟨by repeat (first | (with_reducible first | exact HB.out | apply below_alloc | apply pw_below_drewN | apply below_drew1 | refine below_set ?_ GE277.out | refine below_set ?_ GE284.out) | exact HB.out)⟩⟩
    case rest =>
      clear HC6
      try clear c1
      try clear c2
      try clear p2
      try clear c4
      try clear c6
      try clear c9
      try clear c12
      try clear c14
      try clear c16
      try clear c17
      try clear c21
      try clear c25
      try clear hcz13_0
      try clear hcz13_1
      try clear hcz13_2
      try clear hcz13_3
      try clear hcz18_0
      try clear hcz18_1
      try clear hcz18_2
      try clear hcz18_3
      try clear hcz18_4
      try clear hcz18_5
      try clear hcz18_6
      try clear hcz18_7
      try clear hcz19_0
      try clear hcz19_1
      try clear hcz19_2
      try clear hcz19_3
      try clear hcz22_0
      try clear hcz22_1
      try clear hcz22_2
      try clear hcz22_3
      try clear hcz22_4
      try clear hcz22_5
      try clear hcz22_6
      try clear hcz22_7
      try clear hcz23_0
      try clear hcz23_1
      try clear hcz23_2
      try clear hcz23_3
      try clear hcz26_0
      try clear hcz26_1
      try clear hcz26_2
      try clear hcz26_3
      try clear hcz9_0
      try clear hcz9_1
      try clear hcz9_2
      try clear hcz9_3
      try clear hcz9_4
      try clear hcz9_5
      try clear hcz9_6
      try clear hcz9_7
      try clear hfz13_0
      try clear hfz13_1
      try clear hfz13_2
      try clear hfz13_3
      try clear hfz18_0
      try clear hfz18_1
      try clear hfz18_2
      try clear hfz18_3
      try clear hfz18_4
      try clear hfz18_5
      try clear hfz18_6
      try clear hfz18_7
      try clear hfz19_0
      try clear hfz19_1
      try clear hfz19_2
      try clear hfz19_3
      try clear hfz22_0
      try clear hfz22_1
      try clear hfz22_2
      try clear hfz22_3
      try clear hfz22_4
      try clear hfz22_5
      try clear hfz22_6
      try clear hfz22_7
      try clear hfz23_0
      try clear hfz23_1
      try clear hfz23_2
      try clear hfz23_3
      try clear hfz26_0
      try clear hfz26_1
      try clear hfz26_2
      try clear hfz26_3
      try clear hfz9_0
      try clear hfz9_1
      try clear hfz9_2
      try clear hfz9_3
      try clear hfz9_4
      try clear hfz9_5
      try clear hfz9_6
      try clear hfz9_7
      obtain ⟨kq, x34_5, rfl, HA, HJ5, BK277, BK284, HB⟩ := hcut
      cases kq with
      | zero => exact absurd HA.out (by simp [crierlaw14_CpuifThrough.j0])
      | succ kj5 =>
        have H := HA.out
        clear HA
        simp only [crierlaw14_CpuifThrough.j0] at H
        by_cases c27 : x34_5 = true
        · subst c27
          have H1 : (some false) = some r := by first | (rw [if_pos rfl] at H; exact H) | (rw [if_pos trivial] at H; exact H)
          clear H
          have H := H1
          clear H1
          obtain rfl := Option.some.inj H
          exact absurd hT_.out (by simp)
        · replace c27 := Bool.eq_false_iff.mpr c27
          subst c27
          have H1 : (crierlaw14_CpuifThrough.l0 kj5 l1 true t283 false 0 a0_0 a0_1 a0_2 a0_3 a0_4 a0_5 a0_6 a0_7 t279 t280 t281 t282) = some r := by rw [if_neg (show ¬ (false = true) by decide)] at H; exact H
          clear H
          have H := H1
          clear H1
          have H' := Aside0.mk H
          clear H
          go_wp2
          go_loopg [8, 9] kj5 (fun kq v8 v9 w' => ∃ (x8_2 : Bool) (x9_2 : Int), v8 = .bool x8_2 ∧ v9 = .int .i64 x9_2 ∧ Aside0 (crierlaw14_CpuifThrough.l0 kq l1 true t283 x8_2 x9_2 a0_0 a0_1 a0_2 a0_3 a0_4 a0_5 a0_6 a0_7 t279 t280 t281 t282 = some r) ∧ Aside0 (kq ≤ kj5) ∧ Aside0 (w'.heap[gb277]? = some (.cells #[.int .i64 a0_0, .int .i64 a0_1, .int .i64 a0_2, .bool a0_3, .bool a0_4, .bool a0_5, .int .u32 a0_6, .int .u32 a0_7] 29 (0, 0))) ∧ Aside0 (w'.heap[gb284]? = some (.cells #[.int .i64 t279, .int .i64 t280, .int .i64 t281, .bool t282] 31 (0, 0))) ∧ Aside0 (Below w.heap.size w w'))
          case atStart => exact ⟨(false), (0), (by first | rfl | (simp; done) | (simp [*]; done) | (simp; exact (IntWalk.wrap64_in _ (by decide)).symm)), (by first | rfl | (simp; done) | (simp [*]; done) | (simp; exact (IntWalk.wrap64_in _ (by decide)).symm)), H', ⟨Nat.le_refl _⟩, ⟨by (with_reducible repeat (first | refine blk_drewN ?_ _ | refine blk_drew ?_ | refine blk_alloc ?_ _)); exact BK277.out⟩, ⟨by (with_reducible repeat (first | refine blk_drewN ?_ _ | refine blk_drew ?_ | refine blk_alloc ?_ _)); exact BK284.out⟩, ⟨by repeat (first | (with_reducible first | exact HB.out | apply below_alloc | apply pw_below_drewN | apply below_drew1 | refine below_set ?_ GE277.out | refine below_set ?_ GE284.out) | exact HB.out)⟩⟩
          case round =>
            clear H'
            try clear c1
            try clear c2
            try clear p2
            try clear c4
            try clear c6
            try clear c9
            try clear c12
            try clear c14
            try clear c16
            try clear c17
            try clear c21
            try clear c25
            try clear c27
            try clear hcz13_0
            try clear hcz13_1
            try clear hcz13_2
            try clear hcz13_3
            try clear hcz18_0
            try clear hcz18_1
            try clear hcz18_2
            try clear hcz18_3
            try clear hcz18_4
            try clear hcz18_5
            try clear hcz18_6
            try clear hcz18_7
            try clear hcz19_0
            try clear hcz19_1
            try clear hcz19_2
            try clear hcz19_3
            try clear hcz22_0
            try clear hcz22_1
            try clear hcz22_2
            try clear hcz22_3
            try clear hcz22_4
            try clear hcz22_5
            try clear hcz22_6
            try clear hcz22_7
            try clear hcz23_0
            try clear hcz23_1
            try clear hcz23_2
            try clear hcz23_3
            try clear hcz26_0
            try clear hcz26_1
            try clear hcz26_2
            try clear hcz26_3
            try clear hcz9_0
            try clear hcz9_1
            try clear hcz9_2
            try clear hcz9_3
            try clear hcz9_4
            try clear hcz9_5
            try clear hcz9_6
            try clear hcz9_7
            try clear hfz13_0
            try clear hfz13_1
            try clear hfz13_2
            try clear hfz13_3
            try clear hfz18_0
            try clear hfz18_1
            try clear hfz18_2
            try clear hfz18_3
            try clear hfz18_4
            try clear hfz18_5
            try clear hfz18_6
            try clear hfz18_7
            try clear hfz19_0
            try clear hfz19_1
            try clear hfz19_2
            try clear hfz19_3
            try clear hfz22_0
            try clear hfz22_1
            try clear hfz22_2
            try clear hfz22_3
            try clear hfz22_4
            try clear hfz22_5
            try clear hfz22_6
            try clear hfz22_7
            try clear hfz23_0
            try clear hfz23_1
            try clear hfz23_2
            try clear hfz23_3
            try clear hfz26_0
            try clear hfz26_1
            try clear hfz26_2
            try clear hfz26_3
            try clear hfz9_0
            try clear hfz9_1
            try clear hfz9_2
            try clear hfz9_3
            try clear hfz9_4
            try clear hfz9_5
            try clear hfz9_6
            try clear hfz9_7
            try clear p2
            obtain ⟨x8_2, x9_2, rfl, rfl, HA, HK2, BK277, BK284, HB⟩ := hrel
            cases gk with
            | zero => exact absurd HA.out (by simp [crierlaw14_CpuifThrough.l0])
            | succ k2 =>
              have H := HA.out
              clear HA
              simp only [crierlaw14_CpuifThrough.l0] at H
              by_cases c28 : x9_2 < (l1.length : Int)
              · rw [if_pos c28] at H
                have c28b0 : decide (x9_2 < (l1.length : Int)) = true := decide_eq_true c28
                clear c28
                by_cases c29 : 0 ≤ x9_2
                · rw [if_pos c29] at H
                  have c29b0 : decide (0 ≤ x9_2) = true := decide_eq_true c29
                  clear c29
                  replace H := Option.bind_eq_some_iff.mp H
                  obtain ⟨t287, A300, H⟩ := H
                  replace H : (if t287 = true then (if t283 = true then ((crierref06_Before.f ((rd_T31 l1 x9_2).f1) ((rd_T31 l1 x9_2).f0) t280 t279).bind fun t290 => (if t290 = true then (some false) else (if x8_2 = true then (crierlaw14_CpuifThrough.l0 k2 l1 true t283 true (wrap64 (x9_2 + 1)) a0_0 a0_1 a0_2 a0_3 a0_4 a0_5 a0_6 a0_7 t279 t280 t281 t282) else (crierlaw14_CpuifThrough.l0 k2 l1 true t283 (((rd_T31 l1 x9_2).f0) == t279 && (((rd_T31 l1 x9_2).f1) == t280 && (((rd_T31 l1 x9_2).f2) == t281 && (((rd_T31 l1 x9_2).f3) == t282)))) (wrap64 (x9_2 + 1)) a0_0 a0_1 a0_2 a0_3 a0_4 a0_5 a0_6 a0_7 t279 t280 t281 t282)))) else (some false)) else (crierlaw14_CpuifThrough.l0 k2 l1 true t283 x8_2 (wrap64 (x9_2 + 1)) a0_0 a0_1 a0_2 a0_3 a0_4 a0_5 a0_6 a0_7 t279 t280 t281 t282)) = some r := H
                  have A30 := Aside0.mk A300
                  clear A300
                  by_cases c31 : t287 = true
                  · subst c31
                    have H1 : (if t283 = true then ((crierref06_Before.f ((rd_T31 l1 x9_2).f1) ((rd_T31 l1 x9_2).f0) t280 t279).bind fun t290 => (if t290 = true then (some false) else (if x8_2 = true then (crierlaw14_CpuifThrough.l0 k2 l1 true t283 true (wrap64 (x9_2 + 1)) a0_0 a0_1 a0_2 a0_3 a0_4 a0_5 a0_6 a0_7 t279 t280 t281 t282) else (crierlaw14_CpuifThrough.l0 k2 l1 true t283 (((rd_T31 l1 x9_2).f0) == t279 && (((rd_T31 l1 x9_2).f1) == t280 && (((rd_T31 l1 x9_2).f2) == t281 && (((rd_T31 l1 x9_2).f3) == t282)))) (wrap64 (x9_2 + 1)) a0_0 a0_1 a0_2 a0_3 a0_4 a0_5 a0_6 a0_7 t279 t280 t281 t282)))) else (some false)) = some r := by first | (rw [if_pos rfl] at H; exact H) | (rw [if_pos trivial] at H; exact H)
                    clear H
                    have H := H1
                    clear H1
                    by_cases c32 : t283 = true
                    · subst c32
                      have H1 : ((crierref06_Before.f ((rd_T31 l1 x9_2).f1) ((rd_T31 l1 x9_2).f0) t280 t279).bind fun t290 => (if t290 = true then (some false) else (if x8_2 = true then (crierlaw14_CpuifThrough.l0 k2 l1 true true true (wrap64 (x9_2 + 1)) a0_0 a0_1 a0_2 a0_3 a0_4 a0_5 a0_6 a0_7 t279 t280 t281 t282) else (crierlaw14_CpuifThrough.l0 k2 l1 true true (((rd_T31 l1 x9_2).f0) == t279 && (((rd_T31 l1 x9_2).f1) == t280 && (((rd_T31 l1 x9_2).f2) == t281 && (((rd_T31 l1 x9_2).f3) == t282)))) (wrap64 (x9_2 + 1)) a0_0 a0_1 a0_2 a0_3 a0_4 a0_5 a0_6 a0_7 t279 t280 t281 t282)))) = some r := by first | (rw [if_pos rfl] at H; exact H) | (rw [if_pos trivial] at H; exact H)
                      clear H
                      have H := H1
                      clear H1
                      replace H := Option.bind_eq_some_iff.mp H
                      obtain ⟨t290, A330, H⟩ := H
                      replace H : (if t290 = true then (some false) else (if x8_2 = true then (crierlaw14_CpuifThrough.l0 k2 l1 true true true (wrap64 (x9_2 + 1)) a0_0 a0_1 a0_2 a0_3 a0_4 a0_5 a0_6 a0_7 t279 t280 t281 t282) else (crierlaw14_CpuifThrough.l0 k2 l1 true true (((rd_T31 l1 x9_2).f0) == t279 && (((rd_T31 l1 x9_2).f1) == t280 && (((rd_T31 l1 x9_2).f2) == t281 && (((rd_T31 l1 x9_2).f3) == t282)))) (wrap64 (x9_2 + 1)) a0_0 a0_1 a0_2 a0_3 a0_4 a0_5 a0_6 a0_7 t279 t280 t281 t282))) = some r := H
                      have A33 := Aside0.mk A330
                      clear A330
                      by_cases c34 : t290 = true
                      · subst c34
                        have H1 : (some false) = some r := by first | (rw [if_pos rfl] at H; exact H) | (rw [if_pos trivial] at H; exact H)
                        clear H
                        have H := H1
                        clear H1
                        obtain rfl := Option.some.inj H
                        exact absurd hT_.out (by simp)
                      · replace c34 := Bool.eq_false_iff.mpr c34
                        subst c34
                        have H1 : (if x8_2 = true then (crierlaw14_CpuifThrough.l0 k2 l1 true true true (wrap64 (x9_2 + 1)) a0_0 a0_1 a0_2 a0_3 a0_4 a0_5 a0_6 a0_7 t279 t280 t281 t282) else (crierlaw14_CpuifThrough.l0 k2 l1 true true (((rd_T31 l1 x9_2).f0) == t279 && (((rd_T31 l1 x9_2).f1) == t280 && (((rd_T31 l1 x9_2).f2) == t281 && (((rd_T31 l1 x9_2).f3) == t282)))) (wrap64 (x9_2 + 1)) a0_0 a0_1 a0_2 a0_3 a0_4 a0_5 a0_6 a0_7 t279 t280 t281 t282)) = some r := by rw [if_neg (show ¬ (false = true) by decide)] at H; exact H
                        clear H
                        have H := H1
                        clear H1
                        by_cases c38 : x8_2 = true
                        · subst c38
                          have H1 : (crierlaw14_CpuifThrough.l0 k2 l1 true true true (wrap64 (x9_2 + 1)) a0_0 a0_1 a0_2 a0_3 a0_4 a0_5 a0_6 a0_7 t279 t280 t281 t282) = some r := by first | (rw [if_pos rfl] at H; exact H) | (rw [if_pos trivial] at H; exact H)
                          clear H
                          have H := H1
                          clear H1
                          have H' := Aside0.mk H
                          clear H
                          try go_wp2
                          have n0_ := Aside0.mk (blk_drew BK277.out)
                          have n1_ := Aside0.mk (blk_drew BK284.out)
                          have n2_ := Aside0.mk (below_drew1 HB.out)
                          clear BK277
                          clear BK284
                          clear HB
                          have BK277 := n0_
                          have BK284 := n1_
                          have HB := n2_
                          clear n0_ n1_ n2_
                          have p286 : 0 ≤ (x9_2 : Int) := of_decide_eq_true (by first | (with_reducible assumption) | assumption)
                          have q286 : x9_2 < (l1.length : Int) := of_decide_eq_true (by first | (with_reducible assumption) | assumption)
                          obtain ⟨ad286, e286, hx286_0, hx286_1, hx286_2, hx286_3⟩ := at_T31 HR1.out x9_2 p286 q286
                          have hw286_3 := hx286_3
                          have hw286_2 := hx286_2
                          have hw286_1 := hx286_1
                          have hw286_0 := hx286_0
                          cases e286
                          replace hx286_0 := (HB.out.cell (World.block_lt_of_cell? w _ hx286_0)).trans hx286_0
                          replace hx286_1 := (HB.out.cell (World.block_lt_of_cell? w _ hx286_1)).trans hx286_1
                          replace hx286_2 := (HB.out.cell (World.block_lt_of_cell? w _ hx286_2)).trans hx286_2
                          replace hx286_3 := (HB.out.cell (World.block_lt_of_cell? w _ hx286_3)).trans hx286_3
                          replace p286 := eq_true p286
                          replace q286 := eq_true q286
                          refine start_ (n := 7) (S := fun w' => w'.cell? ⟨gb277, 0, none⟩ = some (.int .i64 a0_0) ∧ w'.cell? ⟨gb277, 1, none⟩ = some (.int .i64 a0_1) ∧ w'.cell? ⟨gb277, 2, none⟩ = some (.int .i64 a0_2) ∧ w'.cell? ⟨gb277, 3, none⟩ = some (.bool a0_3) ∧ w'.cell? ⟨gb277, 4, none⟩ = some (.bool a0_4) ∧ w'.cell? ⟨gb277, 5, none⟩ = some (.bool a0_5) ∧ w'.cell? ⟨gb277, 6, none⟩ = some (.int .u32 a0_6) ∧ w'.cell? ⟨gb277, 7, none⟩ = some (.int .u32 a0_7) ∧ w'.cell? (ad286.add ((x9_2).toNat * 4)) = some (.int .i64 ((rd_T31 l1 x9_2).f0)) ∧ w'.cell? ⟨(ad286.add ((x9_2).toNat * 4)).block, (ad286.add ((x9_2).toNat * 4)).off + 1, none⟩ = some (.int .i64 ((rd_T31 l1 x9_2).f1)) ∧ w'.cell? ⟨(ad286.add ((x9_2).toNat * 4)).block, (ad286.add ((x9_2).toNat * 4)).off + 2, none⟩ = some (.int .i64 ((rd_T31 l1 x9_2).f2)) ∧ w'.cell? ⟨(ad286.add ((x9_2).toNat * 4)).block, (ad286.add ((x9_2).toNat * 4)).off + 3, none⟩ = some (.bool ((rd_T31 l1 x9_2).f3))) (ds := []) #[false, false, false, false, false, false, false] (by kernel_rfl) rfl rfl ⟨(blk_cell BK277.out 0).trans rfl, (blk_cell BK277.out 1).trans rfl, (blk_cell BK277.out 2).trans rfl, (blk_cell BK277.out 3).trans rfl, (blk_cell BK277.out 4).trans rfl, (blk_cell BK277.out 5).trans rfl, (blk_cell BK277.out 6).trans rfl, (blk_cell BK277.out 7).trans rfl, ((HB.out.cell (World.block_lt_of_cell? w _ hw286_0)).trans hw286_0), ((HB.out.cell (World.block_lt_of_cell? w _ hw286_1)).trans hw286_1), ((HB.out.cell (World.block_lt_of_cell? w _ hw286_2)).trans hw286_2), ((HB.out.cell (World.block_lt_of_cell? w _ hw286_3)).trans hw286_3)⟩ (fun hHeld => ?_)
                          generalize wr.drew = w39 at BK277 BK284 HB hx286_0 hx286_1 hx286_2 hx286_3 hHeld ⊢
                          refine pure_ (i := 1) (N := some 42) (v := ?_) (a' := ?_) #[false, true, false, false, false, false, false] rfl rfl (by kernel_rfl) (fun _ _ _ h => h) (Or.inl ⟨by rfl, ?_⟩) ?_ ?_
                          rotate_left
                          · intro w'
                            go_simp
                            with_reducible rfl
                          rotate_left
                          · simp only [Act.put, List.setIfInBounds_toArray, List.set_cons_zero, List.set_cons_succ, i64_w, i32_w]
                            rfl
                          refine pure_ (i := 2) (N := some 43) (v := ?_) (a' := ?_) #[false, true, true, false, false, false, false] rfl rfl (by kernel_rfl) (fun _ _ _ h => h) (Or.inl ⟨by rfl, ?_⟩) ?_ ?_
                          rotate_left
                          · intro w'
                            go_simp
                            with_reducible rfl
                          rotate_left
                          · simp only [Act.put, List.setIfInBounds_toArray, List.set_cons_zero, List.set_cons_succ, i64_w, i32_w]
                            rfl
                          refine pure_ (i := 3) (N := some 44) (v := ?_) (a' := ?_) #[false, true, true, true, false, false, false] rfl rfl (by kernel_rfl) (fun _ _ _ h => h) (Or.inl ⟨by rfl, ?_⟩) ?_ ?_
                          rotate_left
                          · intro w'
                            go_simp
                            with_reducible rfl
                          rotate_left
                          · simp only [Act.put, List.setIfInBounds_toArray, List.set_cons_zero, List.set_cons_succ, i64_w, i32_w]
                            rfl
                          refine take_ (i := 0) (N := some 41) (v := ?_) (a' := ?_) #[true, true, true, true, false, false, false] rfl rfl (by kernel_rfl) (fun _ _ _ h => h) (Or.inl ⟨by rfl, ?_⟩) hHeld ?_ ?_
                          rotate_left
                          · rintro w' ⟨s0, s1, s2, s3, s4, s5, s6, s7, s8, s9, s10, s11⟩
                            go_simp
                            with_reducible rfl
                          rotate_left
                          · simp only [Act.put, List.setIfInBounds_toArray, List.set_cons_zero, List.set_cons_succ, i64_w, i32_w]
                            rfl
                          refine take_ (i := 4) (N := some 45) (v := ?_) (a' := ?_) #[true, true, true, true, true, false, false] rfl rfl (by kernel_rfl) (fun _ _ _ h => h) (Or.inl ⟨by rfl, ?_⟩) hHeld ?_ ?_
                          rotate_left
                          · rintro w' ⟨s0, s1, s2, s3, s4, s5, s6, s7, s8, s9, s10, s11⟩
                            go_simp
                            with_reducible rfl
                          rotate_left
                          · simp only [Act.put, List.setIfInBounds_toArray, List.set_cons_zero, List.set_cons_succ, i64_w, i32_w]
                            rfl
                          refine one_ (i := 5) (N := some 46) #[true, true, true, true, true, true, false] rfl rfl (by kernel_rfl) (by decide) (fun K hK => ?_)
                          refine goes_ Try.func13 (by kernel_rfl) rfl #[.agg #[.int .i64 a0_0, .int .i64 a0_1, .int .i64 a0_2, .bool a0_3, .bool a0_4, .bool a0_5, .int .u32 a0_6, .int .u32 a0_7], .agg #[.int .i64 ((rd_T31 l1 x9_2).f0), .int .i64 ((rd_T31 l1 x9_2).f1), .int .i64 ((rd_T31 l1 x9_2).f2), .bool ((rd_T31 l1 x9_2).f3)]] (by rfl) rfl rfl (by (try simp only [List.map_toArray, List.map_cons, List.map_nil]); first | done | rfl | (simp only [List.length_drop, List.length_take]; rfl)) ?_
                          with_reducible refine (cpuif_If_May.calls a0_0 a0_1 a0_2 a0_3 a0_4 a0_5 a0_6 a0_7 ((rd_T31 l1 x9_2).f0) ((rd_T31 l1 x9_2).f1) ((rd_T31 l1 x9_2).f2) ((rd_T31 l1 x9_2).f3) true _ A30.out).mono ?_
                          rintro e w40 ⟨rfl, hb⟩
                          refine ⟨_, rfl, ?_⟩
                          have n0_ := Aside0.mk (blk_below (g := gb277) (o := .cells #[.int .i64 a0_0, .int .i64 a0_1, .int .i64 a0_2, .bool a0_3, .bool a0_4, .bool a0_5, .int .u32 a0_6, .int .u32 a0_7] 29 (0, 0)) BK277.out hb)
                          have n1_ := Aside0.mk (blk_below (g := gb284) (o := .cells #[.int .i64 t279, .int .i64 t280, .int .i64 t281, .bool t282] 31 (0, 0)) BK284.out hb)
                          have n2_ := Aside0.mk (below_step (by repeat (first | (with_reducible first | exact HB.out | apply below_alloc | apply pw_below_drewN | apply below_drew1 | refine below_set ?_ GE277.out | refine below_set ?_ GE284.out) | exact HB.out)) hb)
                          clear BK277
                          clear BK284
                          clear HB
                          have BK277 := n0_
                          have BK284 := n1_
                          have HB := n2_
                          clear n0_ n1_ n2_
                          (try clear hb)
                          (try clear hb2)
                          (try clear hk)
                          (try clear hi)
                          refine hK.out _ _ ⟨(blk_cell BK277.out 0).trans rfl, (blk_cell BK277.out 1).trans rfl, (blk_cell BK277.out 2).trans rfl, (blk_cell BK277.out 3).trans rfl, (blk_cell BK277.out 4).trans rfl, (blk_cell BK277.out 5).trans rfl, (blk_cell BK277.out 6).trans rfl, (blk_cell BK277.out 7).trans rfl, ((HB.out.cell (World.block_lt_of_cell? w _ hw286_0)).trans hw286_0), ((HB.out.cell (World.block_lt_of_cell? w _ hw286_1)).trans hw286_1), ((HB.out.cell (World.block_lt_of_cell? w _ hw286_2)).trans hw286_2), ((HB.out.cell (World.block_lt_of_cell? w _ hw286_3)).trans hw286_3)⟩ (fun hHeld => ?_)
                          clear hK K
                          refine norm_ (a' := ?_) ?_ ?_
                          rotate_left
                          · show Act.put _ (some 46) _ = _
                            simp only [Act.put, List.setIfInBounds_toArray, List.set_cons_zero, List.set_cons_succ, i64_w, i32_w]
                            rfl
                          refine pure_ (i := 6) (N := some 47) (v := ?_) (a' := ?_) #[true, true, true, true, true, true, true] rfl rfl (by kernel_rfl) (fun _ _ _ h => h) (Or.inl ⟨by rfl, ?_⟩) ?_ ?_
                          rotate_left
                          · intro w'
                            go_simp
                            with_reducible rfl
                          rotate_left
                          · simp only [Act.put, List.setIfInBounds_toArray, List.set_cons_zero, List.set_cons_succ, i64_w, i32_w]
                            rfl
                          refine done_ (by kernel_rfl) ?_
                          try go_wp2
                          have n0_ := Aside0.mk (blk_drew BK277.out)
                          have n1_ := Aside0.mk (blk_drew BK284.out)
                          have n2_ := Aside0.mk (below_drew1 HB.out)
                          clear BK277
                          clear BK284
                          clear HB
                          have BK277 := n0_
                          have BK284 := n1_
                          have HB := n2_
                          clear n0_ n1_ n2_
                          have p288 : 0 ≤ (x9_2 : Int) := of_decide_eq_true (by first | (with_reducible assumption) | assumption)
                          have q288 : x9_2 < (l1.length : Int) := of_decide_eq_true (by first | (with_reducible assumption) | assumption)
                          obtain ⟨ad288, e288, hx288_0, hx288_1, hx288_2, hx288_3⟩ := at_T31 HR1.out x9_2 p288 q288
                          have hw288_3 := hx288_3
                          have hw288_2 := hx288_2
                          have hw288_1 := hx288_1
                          have hw288_0 := hx288_0
                          obtain rfl : ad286 = ad288 := (by injection e288)
                          replace hx288_0 := (HB.out.cell (World.block_lt_of_cell? w _ hx288_0)).trans hx288_0
                          replace hx288_1 := (HB.out.cell (World.block_lt_of_cell? w _ hx288_1)).trans hx288_1
                          replace hx288_2 := (HB.out.cell (World.block_lt_of_cell? w _ hx288_2)).trans hx288_2
                          replace hx288_3 := (HB.out.cell (World.block_lt_of_cell? w _ hx288_3)).trans hx288_3
                          replace p288 := eq_true p288
                          replace q288 := eq_true q288
                          have p289 : 0 ≤ (x9_2 : Int) := of_decide_eq_true (by first | (with_reducible assumption) | assumption)
                          have q289 : x9_2 < (l1.length : Int) := of_decide_eq_true (by first | (with_reducible assumption) | assumption)
                          obtain ⟨ad289, e289, hx289_0, hx289_1, hx289_2, hx289_3⟩ := at_T31 HR1.out x9_2 p289 q289
                          have hw289_3 := hx289_3
                          have hw289_2 := hx289_2
                          have hw289_1 := hx289_1
                          have hw289_0 := hx289_0
                          obtain rfl : ad286 = ad289 := (by injection e289)
                          replace hx289_0 := (HB.out.cell (World.block_lt_of_cell? w _ hx289_0)).trans hx289_0
                          replace hx289_1 := (HB.out.cell (World.block_lt_of_cell? w _ hx289_1)).trans hx289_1
                          replace hx289_2 := (HB.out.cell (World.block_lt_of_cell? w _ hx289_2)).trans hx289_2
                          replace hx289_3 := (HB.out.cell (World.block_lt_of_cell? w _ hx289_3)).trans hx289_3
                          replace p289 := eq_true p289
                          replace q289 := eq_true q289
                          refine start_ (n := 19) (S := fun w' => w'.cell? ⟨gb284, 0, none⟩ = some (.int .i64 t279) ∧ w'.cell? ⟨gb284, 1, none⟩ = some (.int .i64 t280) ∧ w'.cell? ⟨gb284, 2, none⟩ = some (.int .i64 t281) ∧ w'.cell? ⟨gb284, 3, none⟩ = some (.bool t282) ∧ w'.cell? (ad286.add ((x9_2).toNat * 4)) = some (.int .i64 ((rd_T31 l1 x9_2).f0)) ∧ w'.cell? ⟨(ad286.add ((x9_2).toNat * 4)).block, (ad286.add ((x9_2).toNat * 4)).off + 1, none⟩ = some (.int .i64 ((rd_T31 l1 x9_2).f1)) ∧ w'.cell? ⟨(ad286.add ((x9_2).toNat * 4)).block, (ad286.add ((x9_2).toNat * 4)).off + 2, none⟩ = some (.int .i64 ((rd_T31 l1 x9_2).f2)) ∧ w'.cell? ⟨(ad286.add ((x9_2).toNat * 4)).block, (ad286.add ((x9_2).toNat * 4)).off + 3, none⟩ = some (.bool ((rd_T31 l1 x9_2).f3)) ∧ w'.cell? (ad286.add ((x9_2).toNat * 4)) = some (.int .i64 ((rd_T31 l1 x9_2).f0)) ∧ w'.cell? ⟨(ad286.add ((x9_2).toNat * 4)).block, (ad286.add ((x9_2).toNat * 4)).off + 1, none⟩ = some (.int .i64 ((rd_T31 l1 x9_2).f1)) ∧ w'.cell? ⟨(ad286.add ((x9_2).toNat * 4)).block, (ad286.add ((x9_2).toNat * 4)).off + 2, none⟩ = some (.int .i64 ((rd_T31 l1 x9_2).f2)) ∧ w'.cell? ⟨(ad286.add ((x9_2).toNat * 4)).block, (ad286.add ((x9_2).toNat * 4)).off + 3, none⟩ = some (.bool ((rd_T31 l1 x9_2).f3))) (ds := []) #[false, false, false, false, false, false, false, false, false, false, false, false, false, false, false, false, false, false, false] (by kernel_rfl) rfl rfl ⟨(blk_cell BK284.out 0).trans rfl, (blk_cell BK284.out 1).trans rfl, (blk_cell BK284.out 2).trans rfl, (blk_cell BK284.out 3).trans rfl, ((HB.out.cell (World.block_lt_of_cell? w _ hw288_0)).trans hw288_0), ((HB.out.cell (World.block_lt_of_cell? w _ hw288_1)).trans hw288_1), ((HB.out.cell (World.block_lt_of_cell? w _ hw288_2)).trans hw288_2), ((HB.out.cell (World.block_lt_of_cell? w _ hw288_3)).trans hw288_3), ((HB.out.cell (World.block_lt_of_cell? w _ hw289_0)).trans hw289_0), ((HB.out.cell (World.block_lt_of_cell? w _ hw289_1)).trans hw289_1), ((HB.out.cell (World.block_lt_of_cell? w _ hw289_2)).trans hw289_2), ((HB.out.cell (World.block_lt_of_cell? w _ hw289_3)).trans hw289_3)⟩ (fun hHeld => ?_); refine with_tabW crierlaw14_CpuifThrough.tab12 crierlaw14_CpuifThrough.bits12 (fun HT_ HW_ => ?_)
                          generalize w40.drew = w41 at BK277 BK284 HB hx288_0 hx288_1 hx288_2 hx288_3 hx289_0 hx289_1 hx289_2 hx289_3 hHeld ⊢
                          refine pure_ (i := 0) (N := some 48) (v := ?_) (a' := ?_) #[true, false, false, false, false, false, false, false, false, false, false, false, false, false, false, false, false, false, false] rfl rfl (any_of HT_.out (by kernel_rfl)) (fun _ _ _ h => h) (Or.inl ⟨by rfl, ?_⟩) ?_ ?_
                          rotate_left
                          · intro w'
                            go_simp
                            with_reducible rfl
                          rotate_left
                          · simp only [Act.put, List.setIfInBounds_toArray, List.set_cons_zero, List.set_cons_succ, i64_w, i32_w]
                            rfl
                          refine pure_ (i := 1) (N := some 49) (v := ?_) (a' := ?_) #[true, true, false, false, false, false, false, false, false, false, false, false, false, false, false, false, false, false, false] rfl rfl (any_of HT_.out (by kernel_rfl)) (fun _ _ _ h => h) (Or.inl ⟨by rfl, ?_⟩) ?_ ?_
                          rotate_left
                          · intro w'
                            go_simp
                            with_reducible rfl
                          rotate_left
                          · simp only [Act.put, List.setIfInBounds_toArray, List.set_cons_zero, List.set_cons_succ, i64_w, i32_w]
                            rfl
                          refine pure_ (i := 2) (N := some 50) (v := ?_) (a' := ?_) #[true, true, true, false, false, false, false, false, false, false, false, false, false, false, false, false, false, false, false] rfl rfl (any_of HT_.out (by kernel_rfl)) (fun _ _ _ h => h) (Or.inl ⟨by rfl, ?_⟩) ?_ ?_
                          rotate_left
                          · intro w'
                            go_simp
                            with_reducible rfl
                          rotate_left
                          · simp only [Act.put, List.setIfInBounds_toArray, List.set_cons_zero, List.set_cons_succ, i64_w, i32_w]
                            rfl
                          refine pure_ (i := 3) (N := some 51) (v := ?_) (a' := ?_) #[true, true, true, true, false, false, false, false, false, false, false, false, false, false, false, false, false, false, false] rfl rfl (any_of HT_.out (by kernel_rfl)) (fun _ _ _ h => h) (Or.inl ⟨by rfl, ?_⟩) ?_ ?_
                          rotate_left
                          · intro w'
                            go_simp
                            with_reducible rfl
                          rotate_left
                          · simp only [Act.put, List.setIfInBounds_toArray, List.set_cons_zero, List.set_cons_succ, i64_w, i32_w]
                            rfl
                          refine pure_ (i := 4) (N := some 52) (v := ?_) (a' := ?_) #[true, true, true, true, true, false, false, false, false, false, false, false, false, false, false, false, false, false, false] rfl rfl (any_of HT_.out (by kernel_rfl)) (fun _ _ _ h => h) (Or.inl ⟨by rfl, ?_⟩) ?_ ?_
                          rotate_left
                          · intro w'
                            go_simp
                            with_reducible rfl
                          rotate_left
                          · simp only [Act.put, List.setIfInBounds_toArray, List.set_cons_zero, List.set_cons_succ, i64_w, i32_w]
                            rfl
                          refine pure_ (i := 5) (N := some 53) (v := ?_) (a' := ?_) #[true, true, true, true, true, true, false, false, false, false, false, false, false, false, false, false, false, false, false] rfl rfl (any_of HT_.out (by kernel_rfl)) (fun _ _ _ h => h) (Or.inl ⟨by rfl, ?_⟩) ?_ ?_
                          rotate_left
                          · intro w'
                            go_simp
                            with_reducible rfl
                          rotate_left
                          · simp only [Act.put, List.setIfInBounds_toArray, List.set_cons_zero, List.set_cons_succ, i64_w, i32_w]
                            rfl
                          refine pure_ (i := 6) (N := some 54) (v := ?_) (a' := ?_) #[true, true, true, true, true, true, true, false, false, false, false, false, false, false, false, false, false, false, false] rfl rfl (any_of HT_.out (by kernel_rfl)) (fun _ _ _ h => h) (Or.inl ⟨by rfl, ?_⟩) ?_ ?_
                          rotate_left
                          · intro w'
                            go_simp
                            with_reducible rfl
                          rotate_left
                          · simp only [Act.put, List.setIfInBounds_toArray, List.set_cons_zero, List.set_cons_succ, i64_w, i32_w]
                            rfl
                          refine pure_ (i := 8) (N := some 56) (v := ?_) (a' := ?_) #[true, true, true, true, true, true, true, false, true, false, false, false, false, false, false, false, false, false, false] rfl rfl (any_of HT_.out (by kernel_rfl)) (fun _ _ _ h => h) (Or.inl ⟨by rfl, ?_⟩) ?_ ?_
                          rotate_left
                          · intro w'
                            go_simp
                            with_reducible rfl
                          rotate_left
                          · simp only [Act.put, List.setIfInBounds_toArray, List.set_cons_zero, List.set_cons_succ, i64_w, i32_w]
                            rfl
                          refine pure_ (i := 9) (N := some 57) (v := ?_) (a' := ?_) #[true, true, true, true, true, true, true, false, true, true, false, false, false, false, false, false, false, false, false] rfl rfl (any_of HT_.out (by kernel_rfl)) (fun _ _ _ h => h) (Or.inl ⟨by rfl, ?_⟩) ?_ ?_
                          rotate_left
                          · intro w'
                            go_simp
                            with_reducible rfl
                          rotate_left
                          · simp only [Act.put, List.setIfInBounds_toArray, List.set_cons_zero, List.set_cons_succ, i64_w, i32_w]
                            rfl
                          refine pure_ (i := 10) (N := some 58) (v := ?_) (a' := ?_) #[true, true, true, true, true, true, true, false, true, true, true, false, false, false, false, false, false, false, false] rfl rfl (any_of HT_.out (by kernel_rfl)) (fun _ _ _ h => h) (Or.inl ⟨by rfl, ?_⟩) ?_ ?_
                          rotate_left
                          · intro w'
                            go_simp
                            with_reducible rfl
                          rotate_left
                          · simp only [Act.put, List.setIfInBounds_toArray, List.set_cons_zero, List.set_cons_succ, i64_w, i32_w]
                            rfl
                          refine pure_ (i := 11) (N := some 59) (v := ?_) (a' := ?_) #[true, true, true, true, true, true, true, false, true, true, true, true, false, false, false, false, false, false, false] rfl rfl (any_of HT_.out (by kernel_rfl)) (fun _ _ _ h => h) (Or.inl ⟨by rfl, ?_⟩) ?_ ?_
                          rotate_left
                          · intro w'
                            go_simp
                            with_reducible rfl
                          rotate_left
                          · simp only [Act.put, List.setIfInBounds_toArray, List.set_cons_zero, List.set_cons_succ, i64_w, i32_w]
                            rfl
                          refine pure_ (i := 13) (N := some 61) (v := ?_) (a' := ?_) #[true, true, true, true, true, true, true, false, true, true, true, true, false, true, false, false, false, false, false] rfl rfl (any_of HT_.out (by kernel_rfl)) (fun _ _ _ h => h) (Or.inl ⟨by rfl, ?_⟩) ?_ ?_
                          rotate_left
                          · intro w'
                            go_simp
                            with_reducible rfl
                          rotate_left
                          · simp only [Act.put, List.setIfInBounds_toArray, List.set_cons_zero, List.set_cons_succ, i64_w, i32_w]
                            rfl
                          refine pure_ (i := 15) (N := some 63) (v := ?_) (a' := ?_) #[true, true, true, true, true, true, true, false, true, true, true, true, false, true, false, true, false, false, false] rfl rfl (any_of HT_.out (by kernel_rfl)) (fun _ _ _ h => h) (Or.inl ⟨by rfl, ?_⟩) ?_ ?_
                          rotate_left
                          · intro w'
                            go_simp
                            with_reducible rfl
                          rotate_left
                          · simp only [Act.put, List.setIfInBounds_toArray, List.set_cons_zero, List.set_cons_succ, i64_w, i32_w]
                            rfl
                          refine take_ (i := 7) (N := some 55) (v := ?_) (a' := ?_) #[true, true, true, true, true, true, true, true, true, true, true, true, false, true, false, true, false, false, false] rfl rfl (take_ofW HT_.out HW_.out (by kernel_rfl)) (fun _ _ _ h => h) (Or.inl ⟨by rfl, ?_⟩) hHeld ?_ ?_
                          rotate_left
                          · rintro w' ⟨s0, s1, s2, s3, s4, s5, s6, s7, s8, s9, s10, s11⟩
                            go_simp
                            with_reducible rfl
                          rotate_left
                          · simp only [Act.put, List.setIfInBounds_toArray, List.set_cons_zero, List.set_cons_succ, i64_w, i32_w]
                            rfl
                          refine take_ (i := 12) (N := some 60) (v := ?_) (a' := ?_) #[true, true, true, true, true, true, true, true, true, true, true, true, true, true, false, true, false, false, false] rfl rfl (take_ofW HT_.out HW_.out (by kernel_rfl)) (fun _ _ _ h => h) (Or.inl ⟨by rfl, ?_⟩) hHeld ?_ ?_
                          rotate_left
                          · rintro w' ⟨s0, s1, s2, s3, s4, s5, s6, s7, s8, s9, s10, s11⟩
                            go_simp
                            with_reducible rfl
                          rotate_left
                          · simp only [Act.put, List.setIfInBounds_toArray, List.set_cons_zero, List.set_cons_succ, i64_w, i32_w]
                            rfl
                          refine take_ (i := 14) (N := some 62) (v := ?_) (a' := ?_) #[true, true, true, true, true, true, true, true, true, true, true, true, true, true, true, true, false, false, false] rfl rfl (take_ofW HT_.out HW_.out (by kernel_rfl)) (fun _ _ _ h => h) (Or.inl ⟨by rfl, ?_⟩) hHeld ?_ ?_
                          rotate_left
                          · rintro w' ⟨s0, s1, s2, s3, s4, s5, s6, s7, s8, s9, s10, s11⟩
                            go_simp
                            with_reducible rfl
                          rotate_left
                          · simp only [Act.put, List.setIfInBounds_toArray, List.set_cons_zero, List.set_cons_succ, i64_w, i32_w]
                            rfl
                          refine take_ (i := 16) (N := some 64) (v := ?_) (a' := ?_) #[true, true, true, true, true, true, true, true, true, true, true, true, true, true, true, true, true, false, false] rfl rfl (take_ofW HT_.out HW_.out (by kernel_rfl)) (fun _ _ _ h => h) (Or.inl ⟨by rfl, ?_⟩) hHeld ?_ ?_
                          rotate_left
                          · rintro w' ⟨s0, s1, s2, s3, s4, s5, s6, s7, s8, s9, s10, s11⟩
                            go_simp
                            with_reducible rfl
                          rotate_left
                          · simp only [Act.put, List.setIfInBounds_toArray, List.set_cons_zero, List.set_cons_succ, i64_w, i32_w]
                            rfl
                          refine one_ (i := 17) (N := some 65) #[true, true, true, true, true, true, true, true, true, true, true, true, true, true, true, true, true, true, false] rfl rfl (one_of HT_.out (by kernel_rfl)) (by decide) (fun K hK => ?_)
                          refine goes_ Try.func18 (by kernel_rfl) rfl #[.int .i64 ((rd_T31 l1 x9_2).f1), .int .i64 ((rd_T31 l1 x9_2).f0), .int .i64 t280, .int .i64 t279] (by rfl) rfl rfl (by (try simp only [List.map_toArray, List.map_cons, List.map_nil]); first | done | rfl | (simp only [List.length_drop, List.length_take]; rfl)) ?_
                          with_reducible refine (crierref06_Before.calls ((rd_T31 l1 x9_2).f1) ((rd_T31 l1 x9_2).f0) t280 t279 false _ A33.out).mono ?_
                          rintro e w' ⟨rfl, ⟨nd, rfl⟩⟩
                          refine ⟨_, rfl, ?_⟩
                          refine hK.out _ _ ⟨(blk_cell BK284.out 0).trans rfl, (blk_cell BK284.out 1).trans rfl, (blk_cell BK284.out 2).trans rfl, (blk_cell BK284.out 3).trans rfl, ((HB.out.cell (World.block_lt_of_cell? w _ hw288_0)).trans hw288_0), ((HB.out.cell (World.block_lt_of_cell? w _ hw288_1)).trans hw288_1), ((HB.out.cell (World.block_lt_of_cell? w _ hw288_2)).trans hw288_2), ((HB.out.cell (World.block_lt_of_cell? w _ hw288_3)).trans hw288_3), ((HB.out.cell (World.block_lt_of_cell? w _ hw289_0)).trans hw289_0), ((HB.out.cell (World.block_lt_of_cell? w _ hw289_1)).trans hw289_1), ((HB.out.cell (World.block_lt_of_cell? w _ hw289_2)).trans hw289_2), ((HB.out.cell (World.block_lt_of_cell? w _ hw289_3)).trans hw289_3)⟩ (fun hHeld => ?_)
                          clear hK K
                          refine norm_ (a' := ?_) ?_ ?_
                          rotate_left
                          · show Act.put _ (some 65) _ = _
                            simp only [Act.put, List.setIfInBounds_toArray, List.set_cons_zero, List.set_cons_succ, i64_w, i32_w]
                            rfl
                          refine pure_ (i := 18) (N := some 66) (v := ?_) (a' := ?_) #[true, true, true, true, true, true, true, true, true, true, true, true, true, true, true, true, true, true, true] rfl rfl (any_of HT_.out (by kernel_rfl)) (fun _ _ _ h => h) (Or.inl ⟨by rfl, ?_⟩) ?_ ?_
                          rotate_left
                          · intro w'
                            go_simp
                            with_reducible rfl
                          rotate_left
                          · simp only [Act.put, List.setIfInBounds_toArray, List.set_cons_zero, List.set_cons_succ, i64_w, i32_w]
                            rfl
                          refine done_ (done_of HT_.out (by kernel_rfl)) ?_
                          try go_wp2
                          (try (rw [drewN_self w41]; generalize hq_ : World.drewN w41 _ = w41; have n0_ : Aside0 (w41.heap[gb277]? = some (.cells #[.int .i64 a0_0, .int .i64 a0_1, .int .i64 a0_2, .bool a0_3, .bool a0_4, .bool a0_5, .int .u32 a0_6, .int .u32 a0_7] 29 (0, 0))) := ⟨by rw [← hq_]; exact BK277.out⟩; have n1_ : Aside0 (w41.heap[gb284]? = some (.cells #[.int .i64 t279, .int .i64 t280, .int .i64 t281, .bool t282] 31 (0, 0))) := ⟨by rw [← hq_]; exact BK284.out⟩; have n2_ : Aside0 (Below w.heap.size w w41) := ⟨by rw [← hq_]; exact (by repeat (first | (with_reducible first | exact HB.out | apply below_alloc | apply pw_below_drewN | apply below_drew1 | refine below_set ?_ GE277.out | refine below_set ?_ GE284.out) | exact HB.out))⟩; clear BK277 BK284 HB hq_; have BK277 := n0_; have BK284 := n1_; have HB := n2_; clear n0_ n1_ n2_))
                          have n0_ := Aside0.mk (blk_drew BK277.out)
                          have n1_ := Aside0.mk (blk_drew BK284.out)
                          have n2_ := Aside0.mk (below_drew1 HB.out)
                          clear BK277
                          clear BK284
                          clear HB
                          have BK277 := n0_
                          have BK284 := n1_
                          have HB := n2_
                          clear n0_ n1_ n2_
                          refine start_ (n := 10) (S := fun w' => True) (ds := []) #[false, false, false, false, false, false, false, false, false, false] (by kernel_rfl) rfl rfl trivial (fun hHeld => ?_); refine with_tabW crierlaw14_CpuifThrough.tab14 crierlaw14_CpuifThrough.bits14 (fun HT_ HW_ => ?_)
                          generalize w41.drew = w42 at BK277 BK284 HB hHeld ⊢
                          refine pure_ (i := 0) (N := some 67) (v := ?_) (a' := ?_) #[true, false, false, false, false, false, false, false, false, false] rfl rfl (any_of HT_.out (by kernel_rfl)) (fun _ _ _ h => h) (Or.inl ⟨by rfl, ?_⟩) ?_ ?_
                          rotate_left
                          · intro w'
                            go_simp
                            with_reducible rfl
                          rotate_left
                          · simp only [Act.put, List.setIfInBounds_toArray, List.set_cons_zero, List.set_cons_succ, i64_w, i32_w]
                            rfl
                          refine pure_ (i := 1) (N := some 68) (v := ?_) (a' := ?_) #[true, true, false, false, false, false, false, false, false, false] rfl rfl (any_of HT_.out (by kernel_rfl)) (fun _ _ _ h => h) (Or.inl ⟨by rfl, ?_⟩) ?_ ?_
                          rotate_left
                          · intro w'
                            go_simp
                            with_reducible rfl
                          rotate_left
                          · simp only [Act.put, List.setIfInBounds_toArray, List.set_cons_zero, List.set_cons_succ, i64_w, i32_w]
                            rfl
                          refine pure_ (i := 2) (N := some 69) (v := undef) (a' := ?_) #[true, true, true, false, false, false, false, false, false, false] rfl rfl (any_of HT_.out (by kernel_rfl)) (fun _ _ _ h => h) (Or.inr ⟨by rfl, rfl⟩) ?_ ?_
                          rotate_left
                          · simp only [Act.put, List.setIfInBounds_toArray, List.set_cons_zero, List.set_cons_succ, i64_w, i32_w]
                            rfl
                          refine pure_ (i := 3) (N := some 70) (v := undef) (a' := ?_) #[true, true, true, true, false, false, false, false, false, false] rfl rfl (any_of HT_.out (by kernel_rfl)) (fun _ _ _ h => h) (Or.inr ⟨by rfl, rfl⟩) ?_ ?_
                          rotate_left
                          · simp only [Act.put, List.setIfInBounds_toArray, List.set_cons_zero, List.set_cons_succ, i64_w, i32_w]
                            rfl
                          refine pure_ (i := 4) (N := some 71) (v := undef) (a' := ?_) #[true, true, true, true, true, false, false, false, false, false] rfl rfl (any_of HT_.out (by kernel_rfl)) (fun _ _ _ h => h) (Or.inr ⟨by rfl, rfl⟩) ?_ ?_
                          rotate_left
                          · simp only [Act.put, List.setIfInBounds_toArray, List.set_cons_zero, List.set_cons_succ, i64_w, i32_w]
                            rfl
                          refine pure_ (i := 5) (N := some 72) (v := undef) (a' := ?_) #[true, true, true, true, true, true, false, false, false, false] rfl rfl (any_of HT_.out (by kernel_rfl)) (fun _ _ _ h => h) (Or.inr ⟨by rfl, rfl⟩) ?_ ?_
                          rotate_left
                          · simp only [Act.put, List.setIfInBounds_toArray, List.set_cons_zero, List.set_cons_succ, i64_w, i32_w]
                            rfl
                          refine pure_ (i := 6) (N := some 73) (v := undef) (a' := ?_) #[true, true, true, true, true, true, true, false, false, false] rfl rfl (any_of HT_.out (by kernel_rfl)) (fun _ _ _ h => h) (Or.inr ⟨by rfl, rfl⟩) ?_ ?_
                          rotate_left
                          · simp only [Act.put, List.setIfInBounds_toArray, List.set_cons_zero, List.set_cons_succ, i64_w, i32_w]
                            rfl
                          refine pure_ (i := 7) (N := some 74) (v := undef) (a' := ?_) #[true, true, true, true, true, true, true, true, false, false] rfl rfl (any_of HT_.out (by kernel_rfl)) (fun _ _ _ h => h) (Or.inr ⟨by rfl, rfl⟩) ?_ ?_
                          rotate_left
                          · simp only [Act.put, List.setIfInBounds_toArray, List.set_cons_zero, List.set_cons_succ, i64_w, i32_w]
                            rfl
                          refine pure_ (i := 8) (N := some 75) (v := ?_) (a' := ?_) #[true, true, true, true, true, true, true, true, true, false] rfl rfl (any_of HT_.out (by kernel_rfl)) (fun _ _ _ h => h) (Or.inl ⟨by rfl, ?_⟩) ?_ ?_
                          rotate_left
                          · intro w'
                            go_simp
                            with_reducible rfl
                          rotate_left
                          · simp only [Act.put, List.setIfInBounds_toArray, List.set_cons_zero, List.set_cons_succ, i64_w, i32_w]
                            rfl
                          refine pure_ (i := 9) (N := some 8) (v := ?_) (a' := ?_) #[true, true, true, true, true, true, true, true, true, true] rfl rfl (any_of HT_.out (by kernel_rfl)) (fun _ _ _ h => h) (Or.inl ⟨by rfl, ?_⟩) ?_ ?_
                          rotate_left
                          · intro w'
                            go_simp
                            with_reducible rfl
                          rotate_left
                          · simp only [Act.put, List.setIfInBounds_toArray, List.set_cons_zero, List.set_cons_succ, i64_w, i32_w]
                            rfl
                          refine done_ (done_of HT_.out (by kernel_rfl)) ?_
                          try go_wp2
                          go_roundg k2
                          case measure => have := HJ5.out; have := HK2.out; omega
                          case rel => exact ⟨(true), (wrap64 (x9_2 + 1)), (by first | rfl | (simp; done) | (simp [*]; done) | (simp; exact (IntWalk.wrap64_in _ (by decide)).symm)), (by first | rfl | (simp; done) | (simp [*]; done) | (simp; exact (IntWalk.wrap64_in _ (by decide)).symm)), H', ⟨by have := HJ5.out; have := HK2.out; omega⟩, ⟨by (with_reducible repeat (first | refine blk_drewN ?_ _ | refine blk_drew ?_ | refine blk_alloc ?_ _)); exact BK277.out⟩, ⟨by (with_reducible repeat (first | refine blk_drewN ?_ _ | refine blk_drew ?_ | refine blk_alloc ?_ _)); exact BK284.out⟩, ⟨by repeat (first | (with_reducible first | exact HB.out | apply below_alloc | apply pw_below_drewN | apply below_drew1 | refine below_set ?_ GE277.out | refine below_set ?_ GE284.out) | exact HB.out)⟩⟩
                        · replace c38 := Bool.eq_false_iff.mpr c38
                          subst c38
                          have H1 : (crierlaw14_CpuifThrough.l0 k2 l1 true true (((rd_T31 l1 x9_2).f0) == t279 && (((rd_T31 l1 x9_2).f1) == t280 && (((rd_T31 l1 x9_2).f2) == t281 && (((rd_T31 l1 x9_2).f3) == t282)))) (wrap64 (x9_2 + 1)) a0_0 a0_1 a0_2 a0_3 a0_4 a0_5 a0_6 a0_7 t279 t280 t281 t282) = some r := by rw [if_neg (show ¬ (false = true) by decide)] at H; exact H
                          clear H
                          have H := H1
                          clear H1
                          have H' := Aside0.mk H
                          clear H
                          try go_wp2
                          have n0_ := Aside0.mk (blk_drew BK277.out)
                          have n1_ := Aside0.mk (blk_drew BK284.out)
                          have n2_ := Aside0.mk (below_drew1 HB.out)
                          clear BK277
                          clear BK284
                          clear HB
                          have BK277 := n0_
                          have BK284 := n1_
                          have HB := n2_
                          clear n0_ n1_ n2_
                          have p286 : 0 ≤ (x9_2 : Int) := of_decide_eq_true (by first | (with_reducible assumption) | assumption)
                          have q286 : x9_2 < (l1.length : Int) := of_decide_eq_true (by first | (with_reducible assumption) | assumption)
                          obtain ⟨ad286, e286, hx286_0, hx286_1, hx286_2, hx286_3⟩ := at_T31 HR1.out x9_2 p286 q286
                          have hw286_3 := hx286_3
                          have hw286_2 := hx286_2
                          have hw286_1 := hx286_1
                          have hw286_0 := hx286_0
                          cases e286
                          replace hx286_0 := (HB.out.cell (World.block_lt_of_cell? w _ hx286_0)).trans hx286_0
                          replace hx286_1 := (HB.out.cell (World.block_lt_of_cell? w _ hx286_1)).trans hx286_1
                          replace hx286_2 := (HB.out.cell (World.block_lt_of_cell? w _ hx286_2)).trans hx286_2
                          replace hx286_3 := (HB.out.cell (World.block_lt_of_cell? w _ hx286_3)).trans hx286_3
                          replace p286 := eq_true p286
                          replace q286 := eq_true q286
                          refine start_ (n := 7) (S := fun w' => w'.cell? ⟨gb277, 0, none⟩ = some (.int .i64 a0_0) ∧ w'.cell? ⟨gb277, 1, none⟩ = some (.int .i64 a0_1) ∧ w'.cell? ⟨gb277, 2, none⟩ = some (.int .i64 a0_2) ∧ w'.cell? ⟨gb277, 3, none⟩ = some (.bool a0_3) ∧ w'.cell? ⟨gb277, 4, none⟩ = some (.bool a0_4) ∧ w'.cell? ⟨gb277, 5, none⟩ = some (.bool a0_5) ∧ w'.cell? ⟨gb277, 6, none⟩ = some (.int .u32 a0_6) ∧ w'.cell? ⟨gb277, 7, none⟩ = some (.int .u32 a0_7) ∧ w'.cell? (ad286.add ((x9_2).toNat * 4)) = some (.int .i64 ((rd_T31 l1 x9_2).f0)) ∧ w'.cell? ⟨(ad286.add ((x9_2).toNat * 4)).block, (ad286.add ((x9_2).toNat * 4)).off + 1, none⟩ = some (.int .i64 ((rd_T31 l1 x9_2).f1)) ∧ w'.cell? ⟨(ad286.add ((x9_2).toNat * 4)).block, (ad286.add ((x9_2).toNat * 4)).off + 2, none⟩ = some (.int .i64 ((rd_T31 l1 x9_2).f2)) ∧ w'.cell? ⟨(ad286.add ((x9_2).toNat * 4)).block, (ad286.add ((x9_2).toNat * 4)).off + 3, none⟩ = some (.bool ((rd_T31 l1 x9_2).f3))) (ds := []) #[false, false, false, false, false, false, false] (by kernel_rfl) rfl rfl ⟨(blk_cell BK277.out 0).trans rfl, (blk_cell BK277.out 1).trans rfl, (blk_cell BK277.out 2).trans rfl, (blk_cell BK277.out 3).trans rfl, (blk_cell BK277.out 4).trans rfl, (blk_cell BK277.out 5).trans rfl, (blk_cell BK277.out 6).trans rfl, (blk_cell BK277.out 7).trans rfl, ((HB.out.cell (World.block_lt_of_cell? w _ hw286_0)).trans hw286_0), ((HB.out.cell (World.block_lt_of_cell? w _ hw286_1)).trans hw286_1), ((HB.out.cell (World.block_lt_of_cell? w _ hw286_2)).trans hw286_2), ((HB.out.cell (World.block_lt_of_cell? w _ hw286_3)).trans hw286_3)⟩ (fun hHeld => ?_)
                          generalize wr.drew = w43 at BK277 BK284 HB hx286_0 hx286_1 hx286_2 hx286_3 hHeld ⊢
                          refine pure_ (i := 1) (N := some 42) (v := ?_) (a' := ?_) #[false, true, false, false, false, false, false] rfl rfl (by kernel_rfl) (fun _ _ _ h => h) (Or.inl ⟨by rfl, ?_⟩) ?_ ?_
                          rotate_left
                          · intro w'
                            go_simp
                            with_reducible rfl
                          rotate_left
                          · simp only [Act.put, List.setIfInBounds_toArray, List.set_cons_zero, List.set_cons_succ, i64_w, i32_w]
                            rfl
                          refine pure_ (i := 2) (N := some 43) (v := ?_) (a' := ?_) #[false, true, true, false, false, false, false] rfl rfl (by kernel_rfl) (fun _ _ _ h => h) (Or.inl ⟨by rfl, ?_⟩) ?_ ?_
                          rotate_left
                          · intro w'
                            go_simp
                            with_reducible rfl
                          rotate_left
                          · simp only [Act.put, List.setIfInBounds_toArray, List.set_cons_zero, List.set_cons_succ, i64_w, i32_w]
                            rfl
                          refine pure_ (i := 3) (N := some 44) (v := ?_) (a' := ?_) #[false, true, true, true, false, false, false] rfl rfl (by kernel_rfl) (fun _ _ _ h => h) (Or.inl ⟨by rfl, ?_⟩) ?_ ?_
                          rotate_left
                          · intro w'
                            go_simp
                            with_reducible rfl
                          rotate_left
                          · simp only [Act.put, List.setIfInBounds_toArray, List.set_cons_zero, List.set_cons_succ, i64_w, i32_w]
                            rfl
                          refine take_ (i := 0) (N := some 41) (v := ?_) (a' := ?_) #[true, true, true, true, false, false, false] rfl rfl (by kernel_rfl) (fun _ _ _ h => h) (Or.inl ⟨by rfl, ?_⟩) hHeld ?_ ?_
                          rotate_left
                          · rintro w' ⟨s0, s1, s2, s3, s4, s5, s6, s7, s8, s9, s10, s11⟩
                            go_simp
                            with_reducible rfl
                          rotate_left
                          · simp only [Act.put, List.setIfInBounds_toArray, List.set_cons_zero, List.set_cons_succ, i64_w, i32_w]
                            rfl
                          refine take_ (i := 4) (N := some 45) (v := ?_) (a' := ?_) #[true, true, true, true, true, false, false] rfl rfl (by kernel_rfl) (fun _ _ _ h => h) (Or.inl ⟨by rfl, ?_⟩) hHeld ?_ ?_
                          rotate_left
                          · rintro w' ⟨s0, s1, s2, s3, s4, s5, s6, s7, s8, s9, s10, s11⟩
                            go_simp
                            with_reducible rfl
                          rotate_left
                          · simp only [Act.put, List.setIfInBounds_toArray, List.set_cons_zero, List.set_cons_succ, i64_w, i32_w]
                            rfl
                          refine one_ (i := 5) (N := some 46) #[true, true, true, true, true, true, false] rfl rfl (by kernel_rfl) (by decide) (fun K hK => ?_)
                          refine goes_ Try.func13 (by kernel_rfl) rfl #[.agg #[.int .i64 a0_0, .int .i64 a0_1, .int .i64 a0_2, .bool a0_3, .bool a0_4, .bool a0_5, .int .u32 a0_6, .int .u32 a0_7], .agg #[.int .i64 ((rd_T31 l1 x9_2).f0), .int .i64 ((rd_T31 l1 x9_2).f1), .int .i64 ((rd_T31 l1 x9_2).f2), .bool ((rd_T31 l1 x9_2).f3)]] (by rfl) rfl rfl (by (try simp only [List.map_toArray, List.map_cons, List.map_nil]); first | done | rfl | (simp only [List.length_drop, List.length_take]; rfl)) ?_
                          with_reducible refine (cpuif_If_May.calls a0_0 a0_1 a0_2 a0_3 a0_4 a0_5 a0_6 a0_7 ((rd_T31 l1 x9_2).f0) ((rd_T31 l1 x9_2).f1) ((rd_T31 l1 x9_2).f2) ((rd_T31 l1 x9_2).f3) true _ A30.out).mono ?_
                          rintro e w44 ⟨rfl, hb⟩
                          refine ⟨_, rfl, ?_⟩
                          have n0_ := Aside0.mk (blk_below (g := gb277) (o := .cells #[.int .i64 a0_0, .int .i64 a0_1, .int .i64 a0_2, .bool a0_3, .bool a0_4, .bool a0_5, .int .u32 a0_6, .int .u32 a0_7] 29 (0, 0)) BK277.out hb)
                          have n1_ := Aside0.mk (blk_below (g := gb284) (o := .cells #[.int .i64 t279, .int .i64 t280, .int .i64 t281, .bool t282] 31 (0, 0)) BK284.out hb)
                          have n2_ := Aside0.mk (below_step (by repeat (first | (with_reducible first | exact HB.out | apply below_alloc | apply pw_below_drewN | apply below_drew1 | refine below_set ?_ GE277.out | refine below_set ?_ GE284.out) | exact HB.out)) hb)
                          clear BK277
                          clear BK284
                          clear HB
                          have BK277 := n0_
                          have BK284 := n1_
                          have HB := n2_
                          clear n0_ n1_ n2_
                          (try clear hb)
                          (try clear hb2)
                          (try clear hk)
                          (try clear hi)
                          refine hK.out _ _ ⟨(blk_cell BK277.out 0).trans rfl, (blk_cell BK277.out 1).trans rfl, (blk_cell BK277.out 2).trans rfl, (blk_cell BK277.out 3).trans rfl, (blk_cell BK277.out 4).trans rfl, (blk_cell BK277.out 5).trans rfl, (blk_cell BK277.out 6).trans rfl, (blk_cell BK277.out 7).trans rfl, ((HB.out.cell (World.block_lt_of_cell? w _ hw286_0)).trans hw286_0), ((HB.out.cell (World.block_lt_of_cell? w _ hw286_1)).trans hw286_1), ((HB.out.cell (World.block_lt_of_cell? w _ hw286_2)).trans hw286_2), ((HB.out.cell (World.block_lt_of_cell? w _ hw286_3)).trans hw286_3)⟩ (fun hHeld => ?_)
                          clear hK K
                          refine norm_ (a' := ?_) ?_ ?_
                          rotate_left
                          · show Act.put _ (some 46) _ = _
                            simp only [Act.put, List.setIfInBounds_toArray, List.set_cons_zero, List.set_cons_succ, i64_w, i32_w]
                            rfl
                          refine pure_ (i := 6) (N := some 47) (v := ?_) (a' := ?_) #[true, true, true, true, true, true, true] rfl rfl (by kernel_rfl) (fun _ _ _ h => h) (Or.inl ⟨by rfl, ?_⟩) ?_ ?_
                          rotate_left
                          · intro w'
                            go_simp
                            with_reducible rfl
                          rotate_left
                          · simp only [Act.put, List.setIfInBounds_toArray, List.set_cons_zero, List.set_cons_succ, i64_w, i32_w]
                            rfl
                          refine done_ (by kernel_rfl) ?_
                          try go_wp2
                          have n0_ := Aside0.mk (blk_drew BK277.out)
                          have n1_ := Aside0.mk (blk_drew BK284.out)
                          have n2_ := Aside0.mk (below_drew1 HB.out)
                          clear BK277
                          clear BK284
                          clear HB
                          have BK277 := n0_
                          have BK284 := n1_
                          have HB := n2_
                          clear n0_ n1_ n2_
                          have p288 : 0 ≤ (x9_2 : Int) := of_decide_eq_true (by first | (with_reducible assumption) | assumption)
                          have q288 : x9_2 < (l1.length : Int) := of_decide_eq_true (by first | (with_reducible assumption) | assumption)
                          obtain ⟨ad288, e288, hx288_0, hx288_1, hx288_2, hx288_3⟩ := at_T31 HR1.out x9_2 p288 q288
                          have hw288_3 := hx288_3
                          have hw288_2 := hx288_2
                          have hw288_1 := hx288_1
                          have hw288_0 := hx288_0
                          obtain rfl : ad286 = ad288 := (by injection e288)
                          replace hx288_0 := (HB.out.cell (World.block_lt_of_cell? w _ hx288_0)).trans hx288_0
                          replace hx288_1 := (HB.out.cell (World.block_lt_of_cell? w _ hx288_1)).trans hx288_1
                          replace hx288_2 := (HB.out.cell (World.block_lt_of_cell? w _ hx288_2)).trans hx288_2
                          replace hx288_3 := (HB.out.cell (World.block_lt_of_cell? w _ hx288_3)).trans hx288_3
                          replace p288 := eq_true p288
                          replace q288 := eq_true q288
                          have p289 : 0 ≤ (x9_2 : Int) := of_decide_eq_true (by first | (with_reducible assumption) | assumption)
                          have q289 : x9_2 < (l1.length : Int) := of_decide_eq_true (by first | (with_reducible assumption) | assumption)
                          obtain ⟨ad289, e289, hx289_0, hx289_1, hx289_2, hx289_3⟩ := at_T31 HR1.out x9_2 p289 q289
                          have hw289_3 := hx289_3
                          have hw289_2 := hx289_2
                          have hw289_1 := hx289_1
                          have hw289_0 := hx289_0
                          obtain rfl : ad286 = ad289 := (by injection e289)
                          replace hx289_0 := (HB.out.cell (World.block_lt_of_cell? w _ hx289_0)).trans hx289_0
                          replace hx289_1 := (HB.out.cell (World.block_lt_of_cell? w _ hx289_1)).trans hx289_1
                          replace hx289_2 := (HB.out.cell (World.block_lt_of_cell? w _ hx289_2)).trans hx289_2
                          replace hx289_3 := (HB.out.cell (World.block_lt_of_cell? w _ hx289_3)).trans hx289_3
                          replace p289 := eq_true p289
                          replace q289 := eq_true q289
                          refine start_ (n := 19) (S := fun w' => w'.cell? ⟨gb284, 0, none⟩ = some (.int .i64 t279) ∧ w'.cell? ⟨gb284, 1, none⟩ = some (.int .i64 t280) ∧ w'.cell? ⟨gb284, 2, none⟩ = some (.int .i64 t281) ∧ w'.cell? ⟨gb284, 3, none⟩ = some (.bool t282) ∧ w'.cell? (ad286.add ((x9_2).toNat * 4)) = some (.int .i64 ((rd_T31 l1 x9_2).f0)) ∧ w'.cell? ⟨(ad286.add ((x9_2).toNat * 4)).block, (ad286.add ((x9_2).toNat * 4)).off + 1, none⟩ = some (.int .i64 ((rd_T31 l1 x9_2).f1)) ∧ w'.cell? ⟨(ad286.add ((x9_2).toNat * 4)).block, (ad286.add ((x9_2).toNat * 4)).off + 2, none⟩ = some (.int .i64 ((rd_T31 l1 x9_2).f2)) ∧ w'.cell? ⟨(ad286.add ((x9_2).toNat * 4)).block, (ad286.add ((x9_2).toNat * 4)).off + 3, none⟩ = some (.bool ((rd_T31 l1 x9_2).f3)) ∧ w'.cell? (ad286.add ((x9_2).toNat * 4)) = some (.int .i64 ((rd_T31 l1 x9_2).f0)) ∧ w'.cell? ⟨(ad286.add ((x9_2).toNat * 4)).block, (ad286.add ((x9_2).toNat * 4)).off + 1, none⟩ = some (.int .i64 ((rd_T31 l1 x9_2).f1)) ∧ w'.cell? ⟨(ad286.add ((x9_2).toNat * 4)).block, (ad286.add ((x9_2).toNat * 4)).off + 2, none⟩ = some (.int .i64 ((rd_T31 l1 x9_2).f2)) ∧ w'.cell? ⟨(ad286.add ((x9_2).toNat * 4)).block, (ad286.add ((x9_2).toNat * 4)).off + 3, none⟩ = some (.bool ((rd_T31 l1 x9_2).f3))) (ds := []) #[false, false, false, false, false, false, false, false, false, false, false, false, false, false, false, false, false, false, false] (by kernel_rfl) rfl rfl ⟨(blk_cell BK284.out 0).trans rfl, (blk_cell BK284.out 1).trans rfl, (blk_cell BK284.out 2).trans rfl, (blk_cell BK284.out 3).trans rfl, ((HB.out.cell (World.block_lt_of_cell? w _ hw288_0)).trans hw288_0), ((HB.out.cell (World.block_lt_of_cell? w _ hw288_1)).trans hw288_1), ((HB.out.cell (World.block_lt_of_cell? w _ hw288_2)).trans hw288_2), ((HB.out.cell (World.block_lt_of_cell? w _ hw288_3)).trans hw288_3), ((HB.out.cell (World.block_lt_of_cell? w _ hw289_0)).trans hw289_0), ((HB.out.cell (World.block_lt_of_cell? w _ hw289_1)).trans hw289_1), ((HB.out.cell (World.block_lt_of_cell? w _ hw289_2)).trans hw289_2), ((HB.out.cell (World.block_lt_of_cell? w _ hw289_3)).trans hw289_3)⟩ (fun hHeld => ?_); refine with_tabW crierlaw14_CpuifThrough.tab12 crierlaw14_CpuifThrough.bits12 (fun HT_ HW_ => ?_)
                          generalize w44.drew = w45 at BK277 BK284 HB hx288_0 hx288_1 hx288_2 hx288_3 hx289_0 hx289_1 hx289_2 hx289_3 hHeld ⊢
                          refine pure_ (i := 0) (N := some 48) (v := ?_) (a' := ?_) #[true, false, false, false, false, false, false, false, false, false, false, false, false, false, false, false, false, false, false] rfl rfl (any_of HT_.out (by kernel_rfl)) (fun _ _ _ h => h) (Or.inl ⟨by rfl, ?_⟩) ?_ ?_
                          rotate_left
                          · intro w'
                            go_simp
                            with_reducible rfl
                          rotate_left
                          · simp only [Act.put, List.setIfInBounds_toArray, List.set_cons_zero, List.set_cons_succ, i64_w, i32_w]
                            rfl
                          refine pure_ (i := 1) (N := some 49) (v := ?_) (a' := ?_) #[true, true, false, false, false, false, false, false, false, false, false, false, false, false, false, false, false, false, false] rfl rfl (any_of HT_.out (by kernel_rfl)) (fun _ _ _ h => h) (Or.inl ⟨by rfl, ?_⟩) ?_ ?_
                          rotate_left
                          · intro w'
                            go_simp
                            with_reducible rfl
                          rotate_left
                          · simp only [Act.put, List.setIfInBounds_toArray, List.set_cons_zero, List.set_cons_succ, i64_w, i32_w]
                            rfl
                          refine pure_ (i := 2) (N := some 50) (v := ?_) (a' := ?_) #[true, true, true, false, false, false, false, false, false, false, false, false, false, false, false, false, false, false, false] rfl rfl (any_of HT_.out (by kernel_rfl)) (fun _ _ _ h => h) (Or.inl ⟨by rfl, ?_⟩) ?_ ?_
                          rotate_left
                          · intro w'
                            go_simp
                            with_reducible rfl
                          rotate_left
                          · simp only [Act.put, List.setIfInBounds_toArray, List.set_cons_zero, List.set_cons_succ, i64_w, i32_w]
                            rfl
                          refine pure_ (i := 3) (N := some 51) (v := ?_) (a' := ?_) #[true, true, true, true, false, false, false, false, false, false, false, false, false, false, false, false, false, false, false] rfl rfl (any_of HT_.out (by kernel_rfl)) (fun _ _ _ h => h) (Or.inl ⟨by rfl, ?_⟩) ?_ ?_
                          rotate_left
                          · intro w'
                            go_simp
                            with_reducible rfl
                          rotate_left
                          · simp only [Act.put, List.setIfInBounds_toArray, List.set_cons_zero, List.set_cons_succ, i64_w, i32_w]
                            rfl
                          refine pure_ (i := 4) (N := some 52) (v := ?_) (a' := ?_) #[true, true, true, true, true, false, false, false, false, false, false, false, false, false, false, false, false, false, false] rfl rfl (any_of HT_.out (by kernel_rfl)) (fun _ _ _ h => h) (Or.inl ⟨by rfl, ?_⟩) ?_ ?_
                          rotate_left
                          · intro w'
                            go_simp
                            with_reducible rfl
                          rotate_left
                          · simp only [Act.put, List.setIfInBounds_toArray, List.set_cons_zero, List.set_cons_succ, i64_w, i32_w]
                            rfl
                          refine pure_ (i := 5) (N := some 53) (v := ?_) (a' := ?_) #[true, true, true, true, true, true, false, false, false, false, false, false, false, false, false, false, false, false, false] rfl rfl (any_of HT_.out (by kernel_rfl)) (fun _ _ _ h => h) (Or.inl ⟨by rfl, ?_⟩) ?_ ?_
                          rotate_left
                          · intro w'
                            go_simp
                            with_reducible rfl
                          rotate_left
                          · simp only [Act.put, List.setIfInBounds_toArray, List.set_cons_zero, List.set_cons_succ, i64_w, i32_w]
                            rfl
                          refine pure_ (i := 6) (N := some 54) (v := ?_) (a' := ?_) #[true, true, true, true, true, true, true, false, false, false, false, false, false, false, false, false, false, false, false] rfl rfl (any_of HT_.out (by kernel_rfl)) (fun _ _ _ h => h) (Or.inl ⟨by rfl, ?_⟩) ?_ ?_
                          rotate_left
                          · intro w'
                            go_simp
                            with_reducible rfl
                          rotate_left
                          · simp only [Act.put, List.setIfInBounds_toArray, List.set_cons_zero, List.set_cons_succ, i64_w, i32_w]
                            rfl
                          refine pure_ (i := 8) (N := some 56) (v := ?_) (a' := ?_) #[true, true, true, true, true, true, true, false, true, false, false, false, false, false, false, false, false, false, false] rfl rfl (any_of HT_.out (by kernel_rfl)) (fun _ _ _ h => h) (Or.inl ⟨by rfl, ?_⟩) ?_ ?_
                          rotate_left
                          · intro w'
                            go_simp
                            with_reducible rfl
                          rotate_left
                          · simp only [Act.put, List.setIfInBounds_toArray, List.set_cons_zero, List.set_cons_succ, i64_w, i32_w]
                            rfl
                          refine pure_ (i := 9) (N := some 57) (v := ?_) (a' := ?_) #[true, true, true, true, true, true, true, false, true, true, false, false, false, false, false, false, false, false, false] rfl rfl (any_of HT_.out (by kernel_rfl)) (fun _ _ _ h => h) (Or.inl ⟨by rfl, ?_⟩) ?_ ?_
                          rotate_left
                          · intro w'
                            go_simp
                            with_reducible rfl
                          rotate_left
                          · simp only [Act.put, List.setIfInBounds_toArray, List.set_cons_zero, List.set_cons_succ, i64_w, i32_w]
                            rfl
                          refine pure_ (i := 10) (N := some 58) (v := ?_) (a' := ?_) #[true, true, true, true, true, true, true, false, true, true, true, false, false, false, false, false, false, false, false] rfl rfl (any_of HT_.out (by kernel_rfl)) (fun _ _ _ h => h) (Or.inl ⟨by rfl, ?_⟩) ?_ ?_
                          rotate_left
                          · intro w'
                            go_simp
                            with_reducible rfl
                          rotate_left
                          · simp only [Act.put, List.setIfInBounds_toArray, List.set_cons_zero, List.set_cons_succ, i64_w, i32_w]
                            rfl
                          refine pure_ (i := 11) (N := some 59) (v := ?_) (a' := ?_) #[true, true, true, true, true, true, true, false, true, true, true, true, false, false, false, false, false, false, false] rfl rfl (any_of HT_.out (by kernel_rfl)) (fun _ _ _ h => h) (Or.inl ⟨by rfl, ?_⟩) ?_ ?_
                          rotate_left
                          · intro w'
                            go_simp
                            with_reducible rfl
                          rotate_left
                          · simp only [Act.put, List.setIfInBounds_toArray, List.set_cons_zero, List.set_cons_succ, i64_w, i32_w]
                            rfl
                          refine pure_ (i := 13) (N := some 61) (v := ?_) (a' := ?_) #[true, true, true, true, true, true, true, false, true, true, true, true, false, true, false, false, false, false, false] rfl rfl (any_of HT_.out (by kernel_rfl)) (fun _ _ _ h => h) (Or.inl ⟨by rfl, ?_⟩) ?_ ?_
                          rotate_left
                          · intro w'
                            go_simp
                            with_reducible rfl
                          rotate_left
                          · simp only [Act.put, List.setIfInBounds_toArray, List.set_cons_zero, List.set_cons_succ, i64_w, i32_w]
                            rfl
                          refine pure_ (i := 15) (N := some 63) (v := ?_) (a' := ?_) #[true, true, true, true, true, true, true, false, true, true, true, true, false, true, false, true, false, false, false] rfl rfl (any_of HT_.out (by kernel_rfl)) (fun _ _ _ h => h) (Or.inl ⟨by rfl, ?_⟩) ?_ ?_
                          rotate_left
                          · intro w'
                            go_simp
                            with_reducible rfl
                          rotate_left
                          · simp only [Act.put, List.setIfInBounds_toArray, List.set_cons_zero, List.set_cons_succ, i64_w, i32_w]
                            rfl
                          refine take_ (i := 7) (N := some 55) (v := ?_) (a' := ?_) #[true, true, true, true, true, true, true, true, true, true, true, true, false, true, false, true, false, false, false] rfl rfl (take_ofW HT_.out HW_.out (by kernel_rfl)) (fun _ _ _ h => h) (Or.inl ⟨by rfl, ?_⟩) hHeld ?_ ?_
                          rotate_left
                          · rintro w' ⟨s0, s1, s2, s3, s4, s5, s6, s7, s8, s9, s10, s11⟩
                            go_simp
                            with_reducible rfl
                          rotate_left
                          · simp only [Act.put, List.setIfInBounds_toArray, List.set_cons_zero, List.set_cons_succ, i64_w, i32_w]
                            rfl
                          refine take_ (i := 12) (N := some 60) (v := ?_) (a' := ?_) #[true, true, true, true, true, true, true, true, true, true, true, true, true, true, false, true, false, false, false] rfl rfl (take_ofW HT_.out HW_.out (by kernel_rfl)) (fun _ _ _ h => h) (Or.inl ⟨by rfl, ?_⟩) hHeld ?_ ?_
                          rotate_left
                          · rintro w' ⟨s0, s1, s2, s3, s4, s5, s6, s7, s8, s9, s10, s11⟩
                            go_simp
                            with_reducible rfl
                          rotate_left
                          · simp only [Act.put, List.setIfInBounds_toArray, List.set_cons_zero, List.set_cons_succ, i64_w, i32_w]
                            rfl
                          refine take_ (i := 14) (N := some 62) (v := ?_) (a' := ?_) #[true, true, true, true, true, true, true, true, true, true, true, true, true, true, true, true, false, false, false] rfl rfl (take_ofW HT_.out HW_.out (by kernel_rfl)) (fun _ _ _ h => h) (Or.inl ⟨by rfl, ?_⟩) hHeld ?_ ?_
                          rotate_left
                          · rintro w' ⟨s0, s1, s2, s3, s4, s5, s6, s7, s8, s9, s10, s11⟩
                            go_simp
                            with_reducible rfl
                          rotate_left
                          · simp only [Act.put, List.setIfInBounds_toArray, List.set_cons_zero, List.set_cons_succ, i64_w, i32_w]
                            rfl
                          refine take_ (i := 16) (N := some 64) (v := ?_) (a' := ?_) #[true, true, true, true, true, true, true, true, true, true, true, true, true, true, true, true, true, false, false] rfl rfl (take_ofW HT_.out HW_.out (by kernel_rfl)) (fun _ _ _ h => h) (Or.inl ⟨by rfl, ?_⟩) hHeld ?_ ?_
                          rotate_left
                          · rintro w' ⟨s0, s1, s2, s3, s4, s5, s6, s7, s8, s9, s10, s11⟩
                            go_simp
                            with_reducible rfl
                          rotate_left
                          · simp only [Act.put, List.setIfInBounds_toArray, List.set_cons_zero, List.set_cons_succ, i64_w, i32_w]
                            rfl
                          refine one_ (i := 17) (N := some 65) #[true, true, true, true, true, true, true, true, true, true, true, true, true, true, true, true, true, true, false] rfl rfl (one_of HT_.out (by kernel_rfl)) (by decide) (fun K hK => ?_)
                          refine goes_ Try.func18 (by kernel_rfl) rfl #[.int .i64 ((rd_T31 l1 x9_2).f1), .int .i64 ((rd_T31 l1 x9_2).f0), .int .i64 t280, .int .i64 t279] (by rfl) rfl rfl (by (try simp only [List.map_toArray, List.map_cons, List.map_nil]); first | done | rfl | (simp only [List.length_drop, List.length_take]; rfl)) ?_
                          with_reducible refine (crierref06_Before.calls ((rd_T31 l1 x9_2).f1) ((rd_T31 l1 x9_2).f0) t280 t279 false _ A33.out).mono ?_
                          rintro e w' ⟨rfl, ⟨nd, rfl⟩⟩
                          refine ⟨_, rfl, ?_⟩
                          refine hK.out _ _ ⟨(blk_cell BK284.out 0).trans rfl, (blk_cell BK284.out 1).trans rfl, (blk_cell BK284.out 2).trans rfl, (blk_cell BK284.out 3).trans rfl, ((HB.out.cell (World.block_lt_of_cell? w _ hw288_0)).trans hw288_0), ((HB.out.cell (World.block_lt_of_cell? w _ hw288_1)).trans hw288_1), ((HB.out.cell (World.block_lt_of_cell? w _ hw288_2)).trans hw288_2), ((HB.out.cell (World.block_lt_of_cell? w _ hw288_3)).trans hw288_3), ((HB.out.cell (World.block_lt_of_cell? w _ hw289_0)).trans hw289_0), ((HB.out.cell (World.block_lt_of_cell? w _ hw289_1)).trans hw289_1), ((HB.out.cell (World.block_lt_of_cell? w _ hw289_2)).trans hw289_2), ((HB.out.cell (World.block_lt_of_cell? w _ hw289_3)).trans hw289_3)⟩ (fun hHeld => ?_)
                          clear hK K
                          refine norm_ (a' := ?_) ?_ ?_
                          rotate_left
                          · show Act.put _ (some 65) _ = _
                            simp only [Act.put, List.setIfInBounds_toArray, List.set_cons_zero, List.set_cons_succ, i64_w, i32_w]
                            rfl
                          refine pure_ (i := 18) (N := some 66) (v := ?_) (a' := ?_) #[true, true, true, true, true, true, true, true, true, true, true, true, true, true, true, true, true, true, true] rfl rfl (any_of HT_.out (by kernel_rfl)) (fun _ _ _ h => h) (Or.inl ⟨by rfl, ?_⟩) ?_ ?_
                          rotate_left
                          · intro w'
                            go_simp
                            with_reducible rfl
                          rotate_left
                          · simp only [Act.put, List.setIfInBounds_toArray, List.set_cons_zero, List.set_cons_succ, i64_w, i32_w]
                            rfl
                          refine done_ (done_of HT_.out (by kernel_rfl)) ?_
                          try go_wp2
                          (try (rw [drewN_self w45]; generalize hq_ : World.drewN w45 _ = w45; have n0_ : Aside0 (w45.heap[gb277]? = some (.cells #[.int .i64 a0_0, .int .i64 a0_1, .int .i64 a0_2, .bool a0_3, .bool a0_4, .bool a0_5, .int .u32 a0_6, .int .u32 a0_7] 29 (0, 0))) := ⟨by rw [← hq_]; exact BK277.out⟩; have n1_ : Aside0 (w45.heap[gb284]? = some (.cells #[.int .i64 t279, .int .i64 t280, .int .i64 t281, .bool t282] 31 (0, 0))) := ⟨by rw [← hq_]; exact BK284.out⟩; have n2_ : Aside0 (Below w.heap.size w w45) := ⟨by rw [← hq_]; exact (by repeat (first | (with_reducible first | exact HB.out | apply below_alloc | apply pw_below_drewN | apply below_drew1 | refine below_set ?_ GE277.out | refine below_set ?_ GE284.out) | exact HB.out))⟩; clear BK277 BK284 HB hq_; have BK277 := n0_; have BK284 := n1_; have HB := n2_; clear n0_ n1_ n2_))
                          have n0_ := Aside0.mk (blk_drew BK277.out)
                          have n1_ := Aside0.mk (blk_drew BK284.out)
                          have n2_ := Aside0.mk (below_drew1 HB.out)
                          clear BK277
                          clear BK284
                          clear HB
                          have BK277 := n0_
                          have BK284 := n1_
                          have HB := n2_
                          clear n0_ n1_ n2_
                          have p291 : 0 ≤ (x9_2 : Int) := of_decide_eq_true (by first | (with_reducible assumption) | assumption)
                          have q291 : x9_2 < (l1.length : Int) := of_decide_eq_true (by first | (with_reducible assumption) | assumption)
                          obtain ⟨ad291, e291, hx291_0, hx291_1, hx291_2, hx291_3⟩ := at_T31 HR1.out x9_2 p291 q291
                          have hw291_3 := hx291_3
                          have hw291_2 := hx291_2
                          have hw291_1 := hx291_1
                          have hw291_0 := hx291_0
                          obtain rfl : ad286 = ad291 := (by injection e291)
                          replace hx291_0 := (HB.out.cell (World.block_lt_of_cell? w _ hx291_0)).trans hx291_0
                          replace hx291_1 := (HB.out.cell (World.block_lt_of_cell? w _ hx291_1)).trans hx291_1
                          replace hx291_2 := (HB.out.cell (World.block_lt_of_cell? w _ hx291_2)).trans hx291_2
                          replace hx291_3 := (HB.out.cell (World.block_lt_of_cell? w _ hx291_3)).trans hx291_3
                          replace p291 := eq_true p291
                          replace q291 := eq_true q291
                          refine start_ (n := 10) (S := fun w' => w'.cell? ⟨gb284, 0, none⟩ = some (.int .i64 t279) ∧ w'.cell? ⟨gb284, 1, none⟩ = some (.int .i64 t280) ∧ w'.cell? ⟨gb284, 2, none⟩ = some (.int .i64 t281) ∧ w'.cell? ⟨gb284, 3, none⟩ = some (.bool t282) ∧ w'.cell? (ad286.add ((x9_2).toNat * 4)) = some (.int .i64 ((rd_T31 l1 x9_2).f0)) ∧ w'.cell? ⟨(ad286.add ((x9_2).toNat * 4)).block, (ad286.add ((x9_2).toNat * 4)).off + 1, none⟩ = some (.int .i64 ((rd_T31 l1 x9_2).f1)) ∧ w'.cell? ⟨(ad286.add ((x9_2).toNat * 4)).block, (ad286.add ((x9_2).toNat * 4)).off + 2, none⟩ = some (.int .i64 ((rd_T31 l1 x9_2).f2)) ∧ w'.cell? ⟨(ad286.add ((x9_2).toNat * 4)).block, (ad286.add ((x9_2).toNat * 4)).off + 3, none⟩ = some (.bool ((rd_T31 l1 x9_2).f3))) (ds := []) #[false, false, false, false, false, false, false, false, false, false] (by kernel_rfl) rfl rfl ⟨(blk_cell BK284.out 0).trans rfl, (blk_cell BK284.out 1).trans rfl, (blk_cell BK284.out 2).trans rfl, (blk_cell BK284.out 3).trans rfl, ((HB.out.cell (World.block_lt_of_cell? w _ hw291_0)).trans hw291_0), ((HB.out.cell (World.block_lt_of_cell? w _ hw291_1)).trans hw291_1), ((HB.out.cell (World.block_lt_of_cell? w _ hw291_2)).trans hw291_2), ((HB.out.cell (World.block_lt_of_cell? w _ hw291_3)).trans hw291_3)⟩ (fun hHeld => ?_); refine with_tabW crierlaw14_CpuifThrough.tab14 crierlaw14_CpuifThrough.bits14 (fun HT_ HW_ => ?_)
                          generalize w45.drew = w46 at BK277 BK284 HB hx291_0 hx291_1 hx291_2 hx291_3 hHeld ⊢
                          refine pure_ (i := 0) (N := some 67) (v := ?_) (a' := ?_) #[true, false, false, false, false, false, false, false, false, false] rfl rfl (any_of HT_.out (by kernel_rfl)) (fun _ _ _ h => h) (Or.inl ⟨by rfl, ?_⟩) ?_ ?_
                          rotate_left
                          · intro w'
                            go_simp
                            with_reducible rfl
                          rotate_left
                          · simp only [Act.put, List.setIfInBounds_toArray, List.set_cons_zero, List.set_cons_succ, i64_w, i32_w]
                            rfl
                          refine pure_ (i := 1) (N := some 68) (v := ?_) (a' := ?_) #[true, true, false, false, false, false, false, false, false, false] rfl rfl (any_of HT_.out (by kernel_rfl)) (fun _ _ _ h => h) (Or.inl ⟨by rfl, ?_⟩) ?_ ?_
                          rotate_left
                          · intro w'
                            go_simp
                            with_reducible rfl
                          rotate_left
                          · simp only [Act.put, List.setIfInBounds_toArray, List.set_cons_zero, List.set_cons_succ, i64_w, i32_w]
                            rfl
                          refine pure_ (i := 2) (N := some 69) (v := ?_) (a' := ?_) #[true, true, true, false, false, false, false, false, false, false] rfl rfl (any_of HT_.out (by kernel_rfl)) (fun _ _ _ h => h) (Or.inl ⟨by rfl, ?_⟩) ?_ ?_
                          rotate_left
                          · intro w'
                            go_simp
                            with_reducible rfl
                          rotate_left
                          · simp only [Act.put, List.setIfInBounds_toArray, List.set_cons_zero, List.set_cons_succ, i64_w, i32_w]
                            rfl
                          refine pure_ (i := 3) (N := some 70) (v := ?_) (a' := ?_) #[true, true, true, true, false, false, false, false, false, false] rfl rfl (any_of HT_.out (by kernel_rfl)) (fun _ _ _ h => h) (Or.inl ⟨by rfl, ?_⟩) ?_ ?_
                          rotate_left
                          · intro w'
                            go_simp
                            with_reducible rfl
                          rotate_left
                          · simp only [Act.put, List.setIfInBounds_toArray, List.set_cons_zero, List.set_cons_succ, i64_w, i32_w]
                            rfl
                          refine pure_ (i := 4) (N := some 71) (v := ?_) (a' := ?_) #[true, true, true, true, true, false, false, false, false, false] rfl rfl (any_of HT_.out (by kernel_rfl)) (fun _ _ _ h => h) (Or.inl ⟨by rfl, ?_⟩) ?_ ?_
                          rotate_left
                          · intro w'
                            go_simp
                            with_reducible rfl
                          rotate_left
                          · simp only [Act.put, List.setIfInBounds_toArray, List.set_cons_zero, List.set_cons_succ, i64_w, i32_w]
                            rfl
                          refine take_ (i := 5) (N := some 72) (v := ?_) (a' := ?_) #[true, true, true, true, true, true, false, false, false, false] rfl rfl (take_ofW HT_.out HW_.out (by kernel_rfl)) (fun _ _ _ h => h) (Or.inl ⟨by rfl, ?_⟩) hHeld ?_ ?_
                          rotate_left
                          · rintro w' ⟨s0, s1, s2, s3, s4, s5, s6, s7⟩
                            go_simp
                            with_reducible rfl
                          rotate_left
                          · simp only [Act.put, List.setIfInBounds_toArray, List.set_cons_zero, List.set_cons_succ, i64_w, i32_w]
                            rfl
                          refine take_ (i := 6) (N := some 73) (v := ?_) (a' := ?_) #[true, true, true, true, true, true, true, false, false, false] rfl rfl (take_ofW HT_.out HW_.out (by kernel_rfl)) (fun _ _ _ h => h) (Or.inl ⟨by rfl, ?_⟩) hHeld ?_ ?_
                          rotate_left
                          · rintro w' ⟨s0, s1, s2, s3, s4, s5, s6, s7⟩
                            go_simp
                            with_reducible rfl
                          rotate_left
                          · simp only [Act.put, List.setIfInBounds_toArray, List.set_cons_zero, List.set_cons_succ, i64_w, i32_w]
                            rfl
                          refine pure_ (i := 7) (N := some 74) (v := ?_) (a' := ?_) #[true, true, true, true, true, true, true, true, false, false] rfl rfl (any_of HT_.out (by kernel_rfl)) (fun _ _ _ h => h) (Or.inl ⟨by rfl, ?_⟩) ?_ ?_
                          rotate_left
                          · intro w'
                            go_simp
                            with_reducible rfl
                          rotate_left
                          · simp only [Act.put, List.setIfInBounds_toArray, List.set_cons_zero, List.set_cons_succ, i64_w, i32_w]
                            rfl
                          refine pure_ (i := 8) (N := some 75) (v := ?_) (a' := ?_) #[true, true, true, true, true, true, true, true, true, false] rfl rfl (any_of HT_.out (by kernel_rfl)) (fun _ _ _ h => h) (Or.inl ⟨by rfl, ?_⟩) ?_ ?_
                          rotate_left
                          · intro w'
                            go_simp
                            with_reducible rfl
                          rotate_left
                          · simp only [Act.put, List.setIfInBounds_toArray, List.set_cons_zero, List.set_cons_succ, i64_w, i32_w]
                            rfl
                          refine pure_ (i := 9) (N := some 8) (v := ?_) (a' := ?_) #[true, true, true, true, true, true, true, true, true, true] rfl rfl (any_of HT_.out (by kernel_rfl)) (fun _ _ _ h => h) (Or.inl ⟨by rfl, ?_⟩) ?_ ?_
                          rotate_left
                          · intro w'
                            go_simp
                            with_reducible rfl
                          rotate_left
                          · simp only [Act.put, List.setIfInBounds_toArray, List.set_cons_zero, List.set_cons_succ, i64_w, i32_w]
                            rfl
                          refine done_ (done_of HT_.out (by kernel_rfl)) ?_
                          try go_wp2
                          go_roundg k2
                          case measure => have := HJ5.out; have := HK2.out; omega
                          case rel => exact ⟨((((rd_T31 l1 x9_2).f0) == t279 && (((rd_T31 l1 x9_2).f1) == t280 && (((rd_T31 l1 x9_2).f2) == t281 && (((rd_T31 l1 x9_2).f3) == t282))))), (wrap64 (x9_2 + 1)), (by first | rfl | (simp; done) | (simp [*]; done) | (simp; exact (IntWalk.wrap64_in _ (by decide)).symm)), (by first | rfl | (simp; done) | (simp [*]; done) | (simp; exact (IntWalk.wrap64_in _ (by decide)).symm)), H', ⟨by have := HJ5.out; have := HK2.out; omega⟩, ⟨by (with_reducible repeat (first | refine blk_drewN ?_ _ | refine blk_drew ?_ | refine blk_alloc ?_ _)); exact BK277.out⟩, ⟨by (with_reducible repeat (first | refine blk_drewN ?_ _ | refine blk_drew ?_ | refine blk_alloc ?_ _)); exact BK284.out⟩, ⟨by repeat (first | (with_reducible first | exact HB.out | apply below_alloc | apply pw_below_drewN | apply below_drew1 | refine below_set ?_ GE277.out | refine below_set ?_ GE284.out) | exact HB.out)⟩⟩
                    · replace c32 := Bool.eq_false_iff.mpr c32
                      subst c32
                      have H1 : (some false) = some r := by rw [if_neg (show ¬ (false = true) by decide)] at H; exact H
                      clear H
                      have H := H1
                      clear H1
                      obtain rfl := Option.some.inj H
                      exact absurd hT_.out (by simp)
                  · replace c31 := Bool.eq_false_iff.mpr c31
                    subst c31
                    have H1 : (crierlaw14_CpuifThrough.l0 k2 l1 true t283 x8_2 (wrap64 (x9_2 + 1)) a0_0 a0_1 a0_2 a0_3 a0_4 a0_5 a0_6 a0_7 t279 t280 t281 t282) = some r := by rw [if_neg (show ¬ (false = true) by decide)] at H; exact H
                    clear H
                    have H := H1
                    clear H1
                    have H' := Aside0.mk H
                    clear H
                    try go_wp2
                    have n0_ := Aside0.mk (blk_drew BK277.out)
                    have n1_ := Aside0.mk (blk_drew BK284.out)
                    have n2_ := Aside0.mk (below_drew1 HB.out)
                    clear BK277
                    clear BK284
                    clear HB
                    have BK277 := n0_
                    have BK284 := n1_
                    have HB := n2_
                    clear n0_ n1_ n2_
                    have p286 : 0 ≤ (x9_2 : Int) := of_decide_eq_true (by first | (with_reducible assumption) | assumption)
                    have q286 : x9_2 < (l1.length : Int) := of_decide_eq_true (by first | (with_reducible assumption) | assumption)
                    obtain ⟨ad286, e286, hx286_0, hx286_1, hx286_2, hx286_3⟩ := at_T31 HR1.out x9_2 p286 q286
                    have hw286_3 := hx286_3
                    have hw286_2 := hx286_2
                    have hw286_1 := hx286_1
                    have hw286_0 := hx286_0
                    cases e286
                    replace hx286_0 := (HB.out.cell (World.block_lt_of_cell? w _ hx286_0)).trans hx286_0
                    replace hx286_1 := (HB.out.cell (World.block_lt_of_cell? w _ hx286_1)).trans hx286_1
                    replace hx286_2 := (HB.out.cell (World.block_lt_of_cell? w _ hx286_2)).trans hx286_2
                    replace hx286_3 := (HB.out.cell (World.block_lt_of_cell? w _ hx286_3)).trans hx286_3
                    replace p286 := eq_true p286
                    replace q286 := eq_true q286
                    refine start_ (n := 7) (S := fun w' => w'.cell? ⟨gb277, 0, none⟩ = some (.int .i64 a0_0) ∧ w'.cell? ⟨gb277, 1, none⟩ = some (.int .i64 a0_1) ∧ w'.cell? ⟨gb277, 2, none⟩ = some (.int .i64 a0_2) ∧ w'.cell? ⟨gb277, 3, none⟩ = some (.bool a0_3) ∧ w'.cell? ⟨gb277, 4, none⟩ = some (.bool a0_4) ∧ w'.cell? ⟨gb277, 5, none⟩ = some (.bool a0_5) ∧ w'.cell? ⟨gb277, 6, none⟩ = some (.int .u32 a0_6) ∧ w'.cell? ⟨gb277, 7, none⟩ = some (.int .u32 a0_7) ∧ w'.cell? (ad286.add ((x9_2).toNat * 4)) = some (.int .i64 ((rd_T31 l1 x9_2).f0)) ∧ w'.cell? ⟨(ad286.add ((x9_2).toNat * 4)).block, (ad286.add ((x9_2).toNat * 4)).off + 1, none⟩ = some (.int .i64 ((rd_T31 l1 x9_2).f1)) ∧ w'.cell? ⟨(ad286.add ((x9_2).toNat * 4)).block, (ad286.add ((x9_2).toNat * 4)).off + 2, none⟩ = some (.int .i64 ((rd_T31 l1 x9_2).f2)) ∧ w'.cell? ⟨(ad286.add ((x9_2).toNat * 4)).block, (ad286.add ((x9_2).toNat * 4)).off + 3, none⟩ = some (.bool ((rd_T31 l1 x9_2).f3))) (ds := []) #[false, false, false, false, false, false, false] (by kernel_rfl) rfl rfl ⟨(blk_cell BK277.out 0).trans rfl, (blk_cell BK277.out 1).trans rfl, (blk_cell BK277.out 2).trans rfl, (blk_cell BK277.out 3).trans rfl, (blk_cell BK277.out 4).trans rfl, (blk_cell BK277.out 5).trans rfl, (blk_cell BK277.out 6).trans rfl, (blk_cell BK277.out 7).trans rfl, ((HB.out.cell (World.block_lt_of_cell? w _ hw286_0)).trans hw286_0), ((HB.out.cell (World.block_lt_of_cell? w _ hw286_1)).trans hw286_1), ((HB.out.cell (World.block_lt_of_cell? w _ hw286_2)).trans hw286_2), ((HB.out.cell (World.block_lt_of_cell? w _ hw286_3)).trans hw286_3)⟩ (fun hHeld => ?_)
                    generalize wr.drew = w50 at BK277 BK284 HB hx286_0 hx286_1 hx286_2 hx286_3 hHeld ⊢
                    refine pure_ (i := 1) (N := some 42) (v := ?_) (a' := ?_) #[false, true, false, false, false, false, false] rfl rfl (by kernel_rfl) (fun _ _ _ h => h) (Or.inl ⟨by rfl, ?_⟩) ?_ ?_
                    rotate_left
                    · intro w'
                      go_simp
                      with_reducible rfl
                    rotate_left
                    · simp only [Act.put, List.setIfInBounds_toArray, List.set_cons_zero, List.set_cons_succ, i64_w, i32_w]
                      rfl
                    refine pure_ (i := 2) (N := some 43) (v := ?_) (a' := ?_) #[false, true, true, false, false, false, false] rfl rfl (by kernel_rfl) (fun _ _ _ h => h) (Or.inl ⟨by rfl, ?_⟩) ?_ ?_
                    rotate_left
                    · intro w'
                      go_simp
                      with_reducible rfl
                    rotate_left
                    · simp only [Act.put, List.setIfInBounds_toArray, List.set_cons_zero, List.set_cons_succ, i64_w, i32_w]
                      rfl
                    refine pure_ (i := 3) (N := some 44) (v := ?_) (a' := ?_) #[false, true, true, true, false, false, false] rfl rfl (by kernel_rfl) (fun _ _ _ h => h) (Or.inl ⟨by rfl, ?_⟩) ?_ ?_
                    rotate_left
                    · intro w'
                      go_simp
                      with_reducible rfl
                    rotate_left
                    · simp only [Act.put, List.setIfInBounds_toArray, List.set_cons_zero, List.set_cons_succ, i64_w, i32_w]
                      rfl
                    refine take_ (i := 0) (N := some 41) (v := ?_) (a' := ?_) #[true, true, true, true, false, false, false] rfl rfl (by kernel_rfl) (fun _ _ _ h => h) (Or.inl ⟨by rfl, ?_⟩) hHeld ?_ ?_
                    rotate_left
                    · rintro w' ⟨s0, s1, s2, s3, s4, s5, s6, s7, s8, s9, s10, s11⟩
                      go_simp
                      with_reducible rfl
                    rotate_left
                    · simp only [Act.put, List.setIfInBounds_toArray, List.set_cons_zero, List.set_cons_succ, i64_w, i32_w]
                      rfl
                    refine take_ (i := 4) (N := some 45) (v := ?_) (a' := ?_) #[true, true, true, true, true, false, false] rfl rfl (by kernel_rfl) (fun _ _ _ h => h) (Or.inl ⟨by rfl, ?_⟩) hHeld ?_ ?_
                    rotate_left
                    · rintro w' ⟨s0, s1, s2, s3, s4, s5, s6, s7, s8, s9, s10, s11⟩
                      go_simp
                      with_reducible rfl
                    rotate_left
                    · simp only [Act.put, List.setIfInBounds_toArray, List.set_cons_zero, List.set_cons_succ, i64_w, i32_w]
                      rfl
                    refine one_ (i := 5) (N := some 46) #[true, true, true, true, true, true, false] rfl rfl (by kernel_rfl) (by decide) (fun K hK => ?_)
                    refine goes_ Try.func13 (by kernel_rfl) rfl #[.agg #[.int .i64 a0_0, .int .i64 a0_1, .int .i64 a0_2, .bool a0_3, .bool a0_4, .bool a0_5, .int .u32 a0_6, .int .u32 a0_7], .agg #[.int .i64 ((rd_T31 l1 x9_2).f0), .int .i64 ((rd_T31 l1 x9_2).f1), .int .i64 ((rd_T31 l1 x9_2).f2), .bool ((rd_T31 l1 x9_2).f3)]] (by rfl) rfl rfl (by (try simp only [List.map_toArray, List.map_cons, List.map_nil]); first | done | rfl | (simp only [List.length_drop, List.length_take]; rfl)) ?_
                    with_reducible refine (cpuif_If_May.calls a0_0 a0_1 a0_2 a0_3 a0_4 a0_5 a0_6 a0_7 ((rd_T31 l1 x9_2).f0) ((rd_T31 l1 x9_2).f1) ((rd_T31 l1 x9_2).f2) ((rd_T31 l1 x9_2).f3) false _ A30.out).mono ?_
                    rintro e w51 ⟨rfl, hb⟩
                    refine ⟨_, rfl, ?_⟩
                    have n0_ := Aside0.mk (blk_below (g := gb277) (o := .cells #[.int .i64 a0_0, .int .i64 a0_1, .int .i64 a0_2, .bool a0_3, .bool a0_4, .bool a0_5, .int .u32 a0_6, .int .u32 a0_7] 29 (0, 0)) BK277.out hb)
                    have n1_ := Aside0.mk (blk_below (g := gb284) (o := .cells #[.int .i64 t279, .int .i64 t280, .int .i64 t281, .bool t282] 31 (0, 0)) BK284.out hb)
                    have n2_ := Aside0.mk (below_step (by repeat (first | (with_reducible first | exact HB.out | apply below_alloc | apply pw_below_drewN | apply below_drew1 | refine below_set ?_ GE277.out | refine below_set ?_ GE284.out) | exact HB.out)) hb)
                    clear BK277
                    clear BK284
                    clear HB
                    have BK277 := n0_
                    have BK284 := n1_
                    have HB := n2_
                    clear n0_ n1_ n2_
                    (try clear hb)
                    (try clear hb2)
                    (try clear hk)
                    (try clear hi)
                    refine hK.out _ _ ⟨(blk_cell BK277.out 0).trans rfl, (blk_cell BK277.out 1).trans rfl, (blk_cell BK277.out 2).trans rfl, (blk_cell BK277.out 3).trans rfl, (blk_cell BK277.out 4).trans rfl, (blk_cell BK277.out 5).trans rfl, (blk_cell BK277.out 6).trans rfl, (blk_cell BK277.out 7).trans rfl, ((HB.out.cell (World.block_lt_of_cell? w _ hw286_0)).trans hw286_0), ((HB.out.cell (World.block_lt_of_cell? w _ hw286_1)).trans hw286_1), ((HB.out.cell (World.block_lt_of_cell? w _ hw286_2)).trans hw286_2), ((HB.out.cell (World.block_lt_of_cell? w _ hw286_3)).trans hw286_3)⟩ (fun hHeld => ?_)
                    clear hK K
                    refine norm_ (a' := ?_) ?_ ?_
                    rotate_left
                    · show Act.put _ (some 46) _ = _
                      simp only [Act.put, List.setIfInBounds_toArray, List.set_cons_zero, List.set_cons_succ, i64_w, i32_w]
                      rfl
                    refine pure_ (i := 6) (N := some 47) (v := ?_) (a' := ?_) #[true, true, true, true, true, true, true] rfl rfl (by kernel_rfl) (fun _ _ _ h => h) (Or.inl ⟨by rfl, ?_⟩) ?_ ?_
                    rotate_left
                    · intro w'
                      go_simp
                      with_reducible rfl
                    rotate_left
                    · simp only [Act.put, List.setIfInBounds_toArray, List.set_cons_zero, List.set_cons_succ, i64_w, i32_w]
                      rfl
                    refine done_ (by kernel_rfl) ?_
                    try go_wp2
                    go_roundg k2
                    case measure => have := HJ5.out; have := HK2.out; omega
                    case rel => exact ⟨(x8_2), (wrap64 (x9_2 + 1)), (by first | rfl | (simp; done) | (simp [*]; done) | (simp; exact (IntWalk.wrap64_in _ (by decide)).symm)), (by first | rfl | (simp; done) | (simp [*]; done) | (simp; exact (IntWalk.wrap64_in _ (by decide)).symm)), H', ⟨by have := HJ5.out; have := HK2.out; omega⟩, ⟨by (with_reducible repeat (first | refine blk_drewN ?_ _ | refine blk_drew ?_ | refine blk_alloc ?_ _)); exact BK277.out⟩, ⟨by (with_reducible repeat (first | refine blk_drewN ?_ _ | refine blk_drew ?_ | refine blk_alloc ?_ _)); exact BK284.out⟩, ⟨by repeat (first | (with_reducible first | exact HB.out | apply below_alloc | apply pw_below_drewN | apply below_drew1 | refine below_set ?_ GE277.out | refine below_set ?_ GE284.out) | exact HB.out)⟩⟩
                · rw [if_neg c29] at H
                  exact absurd H (by simp)
              · rw [if_neg c28] at H
                have c28b0 : decide (x9_2 < (l1.length : Int)) = false := decide_eq_false c28
                clear c28
                by_cases c52 : true = true
                · clear c52
                  have H1 : (some (x8_2 == t283)) = some r := by first | (rw [if_pos rfl] at H; exact H) | (rw [if_pos trivial] at H; exact H)
                  clear H
                  have H := H1
                  clear H1
                  obtain rfl := Option.some.inj H
                  go_wp2
                  go_ret
                  exact ⟨by first | rfl | (simp [errW_none, errW_some] <;> rfl) | (simp [*, errW_none, errW_some] <;> rfl), by repeat (first | (with_reducible first | exact HB.out | apply below_alloc | apply pw_below_drewN | apply below_drew1 | refine below_set ?_ GE277.out | refine below_set ?_ GE284.out) | exact HB.out)⟩
                · exact absurd rfl c52
  · replace c4 := Bool.eq_false_iff.mpr c4
    subst c4
    have H1 : (some false) = some r := by rw [if_neg (show ¬ (false = true) by decide)] at H; exact H
    clear H
    have H := H1
    clear H1
    obtain rfl := Option.some.inj H
    exact absurd hT_.out (by simp)

end Go.Proofs.Ytpjenhojldcmiaa.IAll
