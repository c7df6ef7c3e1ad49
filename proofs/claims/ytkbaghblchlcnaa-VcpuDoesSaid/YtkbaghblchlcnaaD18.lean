/- Texts of this claim, put together: IAllx8, IAllx9, IAllx14, Vp, Vq, Vd, Cp11, Cp12, LadP. -/
import Derived.Test.YtkbaghblchlcnaaD10
import Derived.Test.YtkbaghblchlcnaaD16
import Derived.Test.YtkbaghblchlcnaaD17
import Derived.Test.YtkbaghblchlcnaaD15
import Derived.Deep.RegionHeld3
-- Written by the program wip/gen/inj.py of this repository, out of the translation, for this claim. Not trusted: Lean checks it.
namespace Go.Proofs.Ytkbaghblchlcnaa.IAll
open Go.RowKit Go.Proofs.YtkbaghblchlcnaaW.PrintWords Go.Proofs.YtkbaghblchlcnaaW.PrintLast Go.Proofs.YtkbaghblchlcnaaW.PrintMore
attribute [local go_sem] max2_int min2_int max_two min_two max_three min_three max_four min_four   -- for this text's walks alone
set_option linter.unusedVariables false
set_option linter.unusedSimpArgs false
/-! ### crierref20_Done: function 82 -/
def crierref20_Done.l0 : Nat → List (S54) → List Int → Int → Option (List Int)
  | 0, _, _, _ => none
  | k + 1, x0, x3, x4 => if x4 < (x0.length : Int) then (if 0 ≤ x4 then (if ((rd_T54 x0 x4).f0) = 0 then (if (rd_T54 x0 x4).f6 = true then (if (rd_T54 x0 x4).f4 = true then (crierref20_Done.l0 k x0 x3 (wrap64 (x4 + 1))) else (if x3.length < 17592186044416 then (crierref20_Done.l0 k x0 (x3 ++ [x4]) (wrap64 (x4 + 1))) else (none))) else (crierref20_Done.l0 k x0 x3 (wrap64 (x4 + 1)))) else (crierref20_Done.l0 k x0 x3 (wrap64 (x4 + 1)))) else (none)) else (some x3)
def crierref20_Done.f (k : Nat) (l0 : List (S54)) : Option (List Int) := crierref20_Done.l0 k l0 ([] : List Int) 0
set_option maxHeartbeats 8000000 in
set_option maxRecDepth 100000 in
theorem crierref20_Done.calls (k : Nat) (A0 : Option Addr) (c0 : Nat) (l0 : List (S54)) (r : List Int) (w : World) (hr0 : Kd.C k54 w A0 l0.length l0) (hc0 : l0.length ≤ c0) (h : crierref20_Done.f k l0 = some r) :
    Calls Try.prog 82 #[.slice A0 l0.length c0] w fun e w' => ∃ v0_ : Value, e = .returned (v0_) ∧ Kd.R (Kd.int .i64) 3 w' w.heap.size (fun _ => True) v0_ r ∧ Below w.heap.size w w' := by
  have HR0 := Aside0.mk hr0
  have HC0 := Aside0.mk hc0
  clear hr0 hc0
  have HB := Aside0.mk (Below.refl w.heap.size w)
  have H : (crierref20_Done.l0 k l0 ([] : List Int) 0) = some r := h
  clear h
  have H' := Aside0.mk H
  clear H
  go_enter Try.func82, Try.ntmps82
  go_wp2
  go_loopg [3, 4] k (fun kq v3 v4 w' => ∃ (x3_1 : List Int) (x4_1 : Int), v4 = .int .i64 x4_1 ∧ Aside0 (crierref20_Done.l0 kq l0 x3_1 x4_1 = some r) ∧ Aside0 (kq ≤ k) ∧ Aside0 (Kd.R (Kd.int .i64) 3 w' w.heap.size (fun _ => True) v3 x3_1) ∧ Aside0 (Below w.heap.size w w'))
  case atStart => exact ⟨(([] : List Int)), (0), (by first | rfl | (simp; done) | (simp [*]; done) | (simp; exact (IntWalk.wrap64_in _ (by decide)).symm)), H', ⟨Nat.le_refl _⟩, ⟨by first | exact Kd.R_nil _ _ _ _ _ | exact Kd.N_nil _ _ _ _ _ | exact Kd.V_nil _ _ _ _ _ | exact Kd.Q_nil _ _ _ _ _ | exact Kd.S_nil _ _ _ _ _⟩, ⟨by repeat (first | (with_reducible first | exact HB.out | apply below_alloc | apply pw_below_drewN | apply below_drew1) | exact HB.out)⟩⟩
  case round =>
    clear H'
    obtain ⟨x3_1, x4_1, rfl, HA, HK1, HO_3, HB⟩ := hrel
    cases gk with
    | zero => exact absurd HA.out (by simp [crierref20_Done.l0])
    | succ k1 =>
      have H := HA.out
      clear HA
      simp only [crierref20_Done.l0] at H
      by_cases c2 : x4_1 < (l0.length : Int)
      · rw [if_pos c2] at H
        have c2b0 : decide (x4_1 < (l0.length : Int)) = true := decide_eq_true c2
        clear c2
        by_cases c3 : 0 ≤ x4_1
        · rw [if_pos c3] at H
          have c3b0 : decide (0 ≤ x4_1) = true := decide_eq_true c3
          clear c3
          by_cases c4 : ((rd_T54 l0 x4_1).f0) = 0
          · rw [if_pos c4] at H
            have c4b0 : (((rd_T54 l0 x4_1).f0) == 0) = true := beq_iff_eq.mpr c4
            have c4b1 : (((rd_T54 l0 x4_1).f0) != 0) = false := bne_eq_false_iff_eq.mpr c4
            clear c4
            obtain ⟨bq5, hbq5⟩ : ∃ b_ : Bool, b_ = ((rd_T54 l0 x4_1).f6) := ⟨_, rfl⟩
            replace H : (if bq5 = true then (if (rd_T54 l0 x4_1).f4 = true then (crierref20_Done.l0 k1 l0 x3_1 (wrap64 (x4_1 + 1))) else (if x3_1.length < 17592186044416 then (crierref20_Done.l0 k1 l0 (x3_1 ++ [x4_1]) (wrap64 (x4_1 + 1))) else (none))) else (crierref20_Done.l0 k1 l0 x3_1 (wrap64 (x4_1 + 1)))) = some r := by rw [← hbq5] at H; exact H
            have Nbq5 := Aside0.mk hbq5
            clear hbq5
            by_cases c6 : bq5 = true
            · subst c6
              have H1 : (if (rd_T54 l0 x4_1).f4 = true then (crierref20_Done.l0 k1 l0 x3_1 (wrap64 (x4_1 + 1))) else (if x3_1.length < 17592186044416 then (crierref20_Done.l0 k1 l0 (x3_1 ++ [x4_1]) (wrap64 (x4_1 + 1))) else (none))) = some r := by first | (rw [if_pos rfl] at H; exact H) | (rw [if_pos trivial] at H; exact H)
              clear H
              have H := H1
              clear H1
              obtain ⟨bq7, hbq7⟩ : ∃ b_ : Bool, b_ = ((rd_T54 l0 x4_1).f4) := ⟨_, rfl⟩
              replace H : (if bq7 = true then (crierref20_Done.l0 k1 l0 x3_1 (wrap64 (x4_1 + 1))) else (if x3_1.length < 17592186044416 then (crierref20_Done.l0 k1 l0 (x3_1 ++ [x4_1]) (wrap64 (x4_1 + 1))) else (none))) = some r := by rw [← hbq7] at H; exact H
              have Nbq7 := Aside0.mk hbq7
              clear hbq7
              by_cases c8 : bq7 = true
              · subst c8
                have H1 : (crierref20_Done.l0 k1 l0 x3_1 (wrap64 (x4_1 + 1))) = some r := by first | (rw [if_pos rfl] at H; exact H) | (rw [if_pos trivial] at H; exact H)
                clear H
                have H := H1
                clear H1
                have H' := Aside0.mk H
                clear H
                have p128 : 0 ≤ (x4_1 : Int) := of_decide_eq_true (by first | (with_reducible assumption) | assumption)
                have q128 : x4_1 < (l0.length : Int) := of_decide_eq_true (by first | (with_reducible assumption) | assumption)
                obtain ⟨ad128, e128, hx128_0, hx128_1, hx128_2, hx128_3, hx128_4, hx128_5, hx128_6⟩ := at_T54 HR0.out x4_1 p128 q128
                (try rw [← Nbq5.out] at hx128_4)
                (try rw [← Nbq7.out] at hx128_4)
                (try rw [← Nbq5.out] at hx128_6)
                (try rw [← Nbq7.out] at hx128_6)
                cases e128
                replace hx128_0 := (HB.out.cell (World.block_lt_of_cell? w _ hx128_0)).trans hx128_0
                replace hx128_1 := (HB.out.cell (World.block_lt_of_cell? w _ hx128_1)).trans hx128_1
                replace hx128_2 := (HB.out.cell (World.block_lt_of_cell? w _ hx128_2)).trans hx128_2
                replace hx128_3 := (HB.out.cell (World.block_lt_of_cell? w _ hx128_3)).trans hx128_3
                replace hx128_4 := (HB.out.cell (World.block_lt_of_cell? w _ hx128_4)).trans hx128_4
                replace hx128_5 := (HB.out.cell (World.block_lt_of_cell? w _ hx128_5)).trans hx128_5
                replace hx128_6 := (HB.out.cell (World.block_lt_of_cell? w _ hx128_6)).trans hx128_6
                replace p128 := eq_true p128
                replace q128 := eq_true q128
                have p129 : 0 ≤ (x4_1 : Int) := of_decide_eq_true (by first | (with_reducible assumption) | assumption)
                have q129 : x4_1 < (l0.length : Int) := of_decide_eq_true (by first | (with_reducible assumption) | assumption)
                obtain ⟨ad129, e129, hx129_0, hx129_1, hx129_2, hx129_3, hx129_4, hx129_5, hx129_6⟩ := at_T54 HR0.out x4_1 p129 q129
                (try rw [← Nbq5.out] at hx129_4)
                (try rw [← Nbq7.out] at hx129_4)
                (try rw [← Nbq5.out] at hx129_6)
                (try rw [← Nbq7.out] at hx129_6)
                obtain rfl : ad128 = ad129 := (by injection e129)
                replace hx129_0 := (HB.out.cell (World.block_lt_of_cell? w _ hx129_0)).trans hx129_0
                replace hx129_1 := (HB.out.cell (World.block_lt_of_cell? w _ hx129_1)).trans hx129_1
                replace hx129_2 := (HB.out.cell (World.block_lt_of_cell? w _ hx129_2)).trans hx129_2
                replace hx129_3 := (HB.out.cell (World.block_lt_of_cell? w _ hx129_3)).trans hx129_3
                replace hx129_4 := (HB.out.cell (World.block_lt_of_cell? w _ hx129_4)).trans hx129_4
                replace hx129_5 := (HB.out.cell (World.block_lt_of_cell? w _ hx129_5)).trans hx129_5
                replace hx129_6 := (HB.out.cell (World.block_lt_of_cell? w _ hx129_6)).trans hx129_6
                replace p129 := eq_true p129
                replace q129 := eq_true q129
                have p130 : 0 ≤ (x4_1 : Int) := of_decide_eq_true (by first | (with_reducible assumption) | assumption)
                have q130 : x4_1 < (l0.length : Int) := of_decide_eq_true (by first | (with_reducible assumption) | assumption)
                obtain ⟨ad130, e130, hx130_0, hx130_1, hx130_2, hx130_3, hx130_4, hx130_5, hx130_6⟩ := at_T54 HR0.out x4_1 p130 q130
                (try rw [← Nbq5.out] at hx130_4)
                (try rw [← Nbq7.out] at hx130_4)
                (try rw [← Nbq5.out] at hx130_6)
                (try rw [← Nbq7.out] at hx130_6)
                obtain rfl : ad128 = ad130 := (by injection e130)
                replace hx130_0 := (HB.out.cell (World.block_lt_of_cell? w _ hx130_0)).trans hx130_0
                replace hx130_1 := (HB.out.cell (World.block_lt_of_cell? w _ hx130_1)).trans hx130_1
                replace hx130_2 := (HB.out.cell (World.block_lt_of_cell? w _ hx130_2)).trans hx130_2
                replace hx130_3 := (HB.out.cell (World.block_lt_of_cell? w _ hx130_3)).trans hx130_3
                replace hx130_4 := (HB.out.cell (World.block_lt_of_cell? w _ hx130_4)).trans hx130_4
                replace hx130_5 := (HB.out.cell (World.block_lt_of_cell? w _ hx130_5)).trans hx130_5
                replace hx130_6 := (HB.out.cell (World.block_lt_of_cell? w _ hx130_6)).trans hx130_6
                replace p130 := eq_true p130
                replace q130 := eq_true q130
                go_wp2
                go_roundg k1
                case measure => have := HK1.out; omega
                case rel => exact ⟨(x3_1), (wrap64 (x4_1 + 1)), (by first | rfl | (simp; done) | (simp [*]; done) | (simp; exact (IntWalk.wrap64_in _ (by decide)).symm)), H', ⟨by have := HK1.out; omega⟩, ⟨by (with_reducible repeat (first | apply Kd.R_alloc | apply Kd.R_drewN | apply Kd.R_drew)); exact HO_3.out⟩, ⟨by repeat (first | (with_reducible first | exact HB.out | apply below_alloc | apply pw_below_drewN | apply below_drew1) | exact HB.out)⟩⟩
              · replace c8 := Bool.eq_false_iff.mpr c8
                subst c8
                have H1 : (if x3_1.length < 17592186044416 then (crierref20_Done.l0 k1 l0 (x3_1 ++ [x4_1]) (wrap64 (x4_1 + 1))) else (none)) = some r := by rw [if_neg (show ¬ (false = true) by decide)] at H; exact H
                clear H
                have H := H1
                clear H1
                by_cases c9 : x3_1.length < 17592186044416
                · rw [if_pos c9] at H
                  have LMc9 := Aside0.mk c9
                  clear c9
                  obtain ⟨y131, hy131⟩ : ∃ y_ : List Int, y_ = (x3_1 ++ [x4_1]) := ⟨_, rfl⟩
                  replace H : (crierref20_Done.l0 k1 l0 y131 (wrap64 (x4_1 + 1))) = some r := by first | (rw [hy131]; with_reducible exact H) | (have H2_ := (Option.bind_some _ _).symm.trans H; rw [hy131]; with_reducible exact H2_) | (have H2_ := (Option.bind_some _ _).symm.trans H; with_reducible exact H2_) | with_reducible exact H | (rw [hy131]; exact H) | exact H
                  have Ny131 := Aside0.mk hy131
                  clear hy131
                  have H' := Aside0.mk H
                  clear H
                  have p128 : 0 ≤ (x4_1 : Int) := of_decide_eq_true (by first | (with_reducible assumption) | assumption)
                  have q128 : x4_1 < (l0.length : Int) := of_decide_eq_true (by first | (with_reducible assumption) | assumption)
                  obtain ⟨ad128, e128, hx128_0, hx128_1, hx128_2, hx128_3, hx128_4, hx128_5, hx128_6⟩ := at_T54 HR0.out x4_1 p128 q128
                  (try rw [← Nbq5.out] at hx128_4)
                  (try rw [← Nbq7.out] at hx128_4)
                  (try rw [← Nbq5.out] at hx128_6)
                  (try rw [← Nbq7.out] at hx128_6)
                  cases e128
                  replace hx128_0 := (HB.out.cell (World.block_lt_of_cell? w _ hx128_0)).trans hx128_0
                  replace hx128_1 := (HB.out.cell (World.block_lt_of_cell? w _ hx128_1)).trans hx128_1
                  replace hx128_2 := (HB.out.cell (World.block_lt_of_cell? w _ hx128_2)).trans hx128_2
                  replace hx128_3 := (HB.out.cell (World.block_lt_of_cell? w _ hx128_3)).trans hx128_3
                  replace hx128_4 := (HB.out.cell (World.block_lt_of_cell? w _ hx128_4)).trans hx128_4
                  replace hx128_5 := (HB.out.cell (World.block_lt_of_cell? w _ hx128_5)).trans hx128_5
                  replace hx128_6 := (HB.out.cell (World.block_lt_of_cell? w _ hx128_6)).trans hx128_6
                  replace p128 := eq_true p128
                  replace q128 := eq_true q128
                  have p129 : 0 ≤ (x4_1 : Int) := of_decide_eq_true (by first | (with_reducible assumption) | assumption)
                  have q129 : x4_1 < (l0.length : Int) := of_decide_eq_true (by first | (with_reducible assumption) | assumption)
                  obtain ⟨ad129, e129, hx129_0, hx129_1, hx129_2, hx129_3, hx129_4, hx129_5, hx129_6⟩ := at_T54 HR0.out x4_1 p129 q129
                  (try rw [← Nbq5.out] at hx129_4)
                  (try rw [← Nbq7.out] at hx129_4)
                  (try rw [← Nbq5.out] at hx129_6)
                  (try rw [← Nbq7.out] at hx129_6)
                  obtain rfl : ad128 = ad129 := (by injection e129)
                  replace hx129_0 := (HB.out.cell (World.block_lt_of_cell? w _ hx129_0)).trans hx129_0
                  replace hx129_1 := (HB.out.cell (World.block_lt_of_cell? w _ hx129_1)).trans hx129_1
                  replace hx129_2 := (HB.out.cell (World.block_lt_of_cell? w _ hx129_2)).trans hx129_2
                  replace hx129_3 := (HB.out.cell (World.block_lt_of_cell? w _ hx129_3)).trans hx129_3
                  replace hx129_4 := (HB.out.cell (World.block_lt_of_cell? w _ hx129_4)).trans hx129_4
                  replace hx129_5 := (HB.out.cell (World.block_lt_of_cell? w _ hx129_5)).trans hx129_5
                  replace hx129_6 := (HB.out.cell (World.block_lt_of_cell? w _ hx129_6)).trans hx129_6
                  replace p129 := eq_true p129
                  replace q129 := eq_true q129
                  have p130 : 0 ≤ (x4_1 : Int) := of_decide_eq_true (by first | (with_reducible assumption) | assumption)
                  have q130 : x4_1 < (l0.length : Int) := of_decide_eq_true (by first | (with_reducible assumption) | assumption)
                  obtain ⟨ad130, e130, hx130_0, hx130_1, hx130_2, hx130_3, hx130_4, hx130_5, hx130_6⟩ := at_T54 HR0.out x4_1 p130 q130
                  (try rw [← Nbq5.out] at hx130_4)
                  (try rw [← Nbq7.out] at hx130_4)
                  (try rw [← Nbq5.out] at hx130_6)
                  (try rw [← Nbq7.out] at hx130_6)
                  obtain rfl : ad128 = ad130 := (by injection e130)
                  replace hx130_0 := (HB.out.cell (World.block_lt_of_cell? w _ hx130_0)).trans hx130_0
                  replace hx130_1 := (HB.out.cell (World.block_lt_of_cell? w _ hx130_1)).trans hx130_1
                  replace hx130_2 := (HB.out.cell (World.block_lt_of_cell? w _ hx130_2)).trans hx130_2
                  replace hx130_3 := (HB.out.cell (World.block_lt_of_cell? w _ hx130_3)).trans hx130_3
                  replace hx130_4 := (HB.out.cell (World.block_lt_of_cell? w _ hx130_4)).trans hx130_4
                  replace hx130_5 := (HB.out.cell (World.block_lt_of_cell? w _ hx130_5)).trans hx130_5
                  replace hx130_6 := (HB.out.cell (World.block_lt_of_cell? w _ hx130_6)).trans hx130_6
                  replace p130 := eq_true p130
                  replace q130 := eq_true q130
                  go_wp2_with (first | ((with_reducible refine gate_builtin (b := .append) (xs := #[.tmp 32, .tmp 34]) rfl ?_); at_builtin; refine Kd.R_append (Kd.int .i64) (w0 := w) w.heap.size rfl (.tmp 32) (.tmp 34) 71 3 (.int .i64 0) 8 rfl Try.underlying71 info3 rfl (by decide) (by omega) u3 x3_1 x4_1 [.int .i64 x4_1] (fun _ => True) (fun _ => False) rfl rfl ?aP (fun _ hk => hk.elim) ?aF ?aO ?aB ?aS ?aL ?_; (case aP => exact rfl); (case aB => exact (by repeat (first | (with_reducible first | exact HB.out | apply below_alloc | apply pw_below_drewN | apply below_drew1) | exact HB.out))); (case aF => exact (fun _ _ => trivial)); (case aO => exact (by (with_reducible repeat (first | apply Kd.R_alloc | apply Kd.R_drewN | apply Kd.R_drew)); exact HO_3.out)); (case aS => exact (below_size (by repeat (first | (with_reducible first | exact HB.out | apply below_alloc | apply pw_below_drewN | apply below_drew1) | exact HB.out)))); (case aL => have := LMc9.out; omega); intro v132 w10 ho hb hg hat; rw [← Ny131.out] at ho; have n0_ := Aside0.mk (hb); have n1_ := Aside0.mk (ho); clear HB; clear HO_3; have HB := n0_; have HO133 := n1_; clear n0_ n1_; clear ho hb hg hat))
                  go_roundg k1
                  case measure => have := HK1.out; omega
                  case rel => exact ⟨(y131), (wrap64 (x4_1 + 1)), (by first | rfl | (simp; done) | (simp [*]; done) | (simp; exact (IntWalk.wrap64_in _ (by decide)).symm)), H', ⟨by have := HK1.out; omega⟩, ⟨by (with_reducible repeat (first | apply Kd.R_alloc | apply Kd.R_drewN | apply Kd.R_drew)); exact HO133.out⟩, ⟨by repeat (first | (with_reducible first | exact HB.out | apply below_alloc | apply pw_below_drewN | apply below_drew1) | exact HB.out)⟩⟩
                · rw [if_neg c9] at H
                  exact absurd H (by simp)
            · replace c6 := Bool.eq_false_iff.mpr c6
              subst c6
              have H1 : (crierref20_Done.l0 k1 l0 x3_1 (wrap64 (x4_1 + 1))) = some r := by rw [if_neg (show ¬ (false = true) by decide)] at H; exact H
              clear H
              have H := H1
              clear H1
              have H' := Aside0.mk H
              clear H
              have p128 : 0 ≤ (x4_1 : Int) := of_decide_eq_true (by first | (with_reducible assumption) | assumption)
              have q128 : x4_1 < (l0.length : Int) := of_decide_eq_true (by first | (with_reducible assumption) | assumption)
              obtain ⟨ad128, e128, hx128_0, hx128_1, hx128_2, hx128_3, hx128_4, hx128_5, hx128_6⟩ := at_T54 HR0.out x4_1 p128 q128
              (try rw [← Nbq5.out] at hx128_4)
              (try rw [← Nbq5.out] at hx128_6)
              cases e128
              replace hx128_0 := (HB.out.cell (World.block_lt_of_cell? w _ hx128_0)).trans hx128_0
              replace hx128_1 := (HB.out.cell (World.block_lt_of_cell? w _ hx128_1)).trans hx128_1
              replace hx128_2 := (HB.out.cell (World.block_lt_of_cell? w _ hx128_2)).trans hx128_2
              replace hx128_3 := (HB.out.cell (World.block_lt_of_cell? w _ hx128_3)).trans hx128_3
              replace hx128_4 := (HB.out.cell (World.block_lt_of_cell? w _ hx128_4)).trans hx128_4
              replace hx128_5 := (HB.out.cell (World.block_lt_of_cell? w _ hx128_5)).trans hx128_5
              replace hx128_6 := (HB.out.cell (World.block_lt_of_cell? w _ hx128_6)).trans hx128_6
              replace p128 := eq_true p128
              replace q128 := eq_true q128
              have p129 : 0 ≤ (x4_1 : Int) := of_decide_eq_true (by first | (with_reducible assumption) | assumption)
              have q129 : x4_1 < (l0.length : Int) := of_decide_eq_true (by first | (with_reducible assumption) | assumption)
              obtain ⟨ad129, e129, hx129_0, hx129_1, hx129_2, hx129_3, hx129_4, hx129_5, hx129_6⟩ := at_T54 HR0.out x4_1 p129 q129
              (try rw [← Nbq5.out] at hx129_4)
              (try rw [← Nbq5.out] at hx129_6)
              obtain rfl : ad128 = ad129 := (by injection e129)
              replace hx129_0 := (HB.out.cell (World.block_lt_of_cell? w _ hx129_0)).trans hx129_0
              replace hx129_1 := (HB.out.cell (World.block_lt_of_cell? w _ hx129_1)).trans hx129_1
              replace hx129_2 := (HB.out.cell (World.block_lt_of_cell? w _ hx129_2)).trans hx129_2
              replace hx129_3 := (HB.out.cell (World.block_lt_of_cell? w _ hx129_3)).trans hx129_3
              replace hx129_4 := (HB.out.cell (World.block_lt_of_cell? w _ hx129_4)).trans hx129_4
              replace hx129_5 := (HB.out.cell (World.block_lt_of_cell? w _ hx129_5)).trans hx129_5
              replace hx129_6 := (HB.out.cell (World.block_lt_of_cell? w _ hx129_6)).trans hx129_6
              replace p129 := eq_true p129
              replace q129 := eq_true q129
              go_wp2
              go_roundg k1
              case measure => have := HK1.out; omega
              case rel => exact ⟨(x3_1), (wrap64 (x4_1 + 1)), (by first | rfl | (simp; done) | (simp [*]; done) | (simp; exact (IntWalk.wrap64_in _ (by decide)).symm)), H', ⟨by have := HK1.out; omega⟩, ⟨by (with_reducible repeat (first | apply Kd.R_alloc | apply Kd.R_drewN | apply Kd.R_drew)); exact HO_3.out⟩, ⟨by repeat (first | (with_reducible first | exact HB.out | apply below_alloc | apply pw_below_drewN | apply below_drew1) | exact HB.out)⟩⟩
          · rw [if_neg c4] at H
            have c4b0 : (((rd_T54 l0 x4_1).f0) == 0) = false := beq_eq_false_iff_ne.mpr c4
            have c4b1 : (((rd_T54 l0 x4_1).f0) != 0) = true := bne_iff_ne.mpr c4
            have H' := Aside0.mk H
            clear H
            have p128 : 0 ≤ (x4_1 : Int) := of_decide_eq_true (by first | (with_reducible assumption) | assumption)
            have q128 : x4_1 < (l0.length : Int) := of_decide_eq_true (by first | (with_reducible assumption) | assumption)
            obtain ⟨ad128, e128, hx128_0, hx128_1, hx128_2, hx128_3, hx128_4, hx128_5, hx128_6⟩ := at_T54 HR0.out x4_1 p128 q128
            cases e128
            replace hx128_0 := (HB.out.cell (World.block_lt_of_cell? w _ hx128_0)).trans hx128_0
            replace hx128_1 := (HB.out.cell (World.block_lt_of_cell? w _ hx128_1)).trans hx128_1
            replace hx128_2 := (HB.out.cell (World.block_lt_of_cell? w _ hx128_2)).trans hx128_2
            replace hx128_3 := (HB.out.cell (World.block_lt_of_cell? w _ hx128_3)).trans hx128_3
            replace hx128_4 := (HB.out.cell (World.block_lt_of_cell? w _ hx128_4)).trans hx128_4
            replace hx128_5 := (HB.out.cell (World.block_lt_of_cell? w _ hx128_5)).trans hx128_5
            replace hx128_6 := (HB.out.cell (World.block_lt_of_cell? w _ hx128_6)).trans hx128_6
            replace p128 := eq_true p128
            replace q128 := eq_true q128
            go_wp2
            go_roundg k1
            case measure => have := HK1.out; omega
            case rel => exact ⟨(x3_1), (wrap64 (x4_1 + 1)), (by first | rfl | (simp; done) | (simp [*]; done) | (simp; exact (IntWalk.wrap64_in _ (by decide)).symm)), H', ⟨by have := HK1.out; omega⟩, ⟨by (with_reducible repeat (first | apply Kd.R_alloc | apply Kd.R_drewN | apply Kd.R_drew)); exact HO_3.out⟩, ⟨by repeat (first | (with_reducible first | exact HB.out | apply below_alloc | apply pw_below_drewN | apply below_drew1) | exact HB.out)⟩⟩
        · rw [if_neg c3] at H
          exact absurd H (by simp)
      · rw [if_neg c2] at H
        have c2b0 : decide (x4_1 < (l0.length : Int)) = false := decide_eq_false c2
        clear c2
        obtain rfl := Option.some.inj H
        go_wp2
        go_ret
        exact ⟨_, by first | rfl | (simp [errW_none, errW_some] <;> rfl) | (simp [*, errW_none, errW_some] <;> rfl), by (with_reducible repeat (first | apply Kd.R_alloc | apply Kd.R_drewN | apply Kd.R_drew)); exact HO_3.out, by repeat (first | (with_reducible first | exact HB.out | apply below_alloc | apply pw_below_drewN | apply below_drew1) | exact HB.out)⟩
end Go.Proofs.Ytkbaghblchlcnaa.IAll
-- Written by the program wip/gen/inj.py of this repository, out of the translation, for this claim. Not trusted: Lean checks it.
namespace Go.Proofs.Ytkbaghblchlcnaa.IAll
open Go.RowKit Go.Proofs.YtkbaghblchlcnaaW.PrintWords Go.Proofs.YtkbaghblchlcnaaW.PrintLast Go.Proofs.YtkbaghblchlcnaaW.PrintMore
attribute [local go_sem] max2_int min2_int max_two min_two max_three min_three max_four min_four   -- for this text's walks alone
set_option linter.unusedVariables false
set_option linter.unusedSimpArgs false
/-! ### crierref20_Free: function 83 -/
def crierref20_Free.l0 : Nat → List (S54) → List Int → Int → Option (List Int)
  | 0, _, _, _ => none
  | k + 1, x0, x3, x4 => if x4 < (x0.length : Int) then (if 0 ≤ x4 then (if ((rd_T54 x0 x4).f0) = 0 then (if x3.length < 17592186044416 then (crierref20_Free.l0 k x0 (x3 ++ [x4]) (wrap64 (x4 + 1))) else (none)) else (crierref20_Free.l0 k x0 x3 (wrap64 (x4 + 1)))) else (none)) else (some x3)
def crierref20_Free.f (k : Nat) (l0 : List (S54)) : Option (List Int) := crierref20_Free.l0 k l0 ([] : List Int) 0
set_option maxHeartbeats 8000000 in
set_option maxRecDepth 100000 in
theorem crierref20_Free.calls (k : Nat) (A0 : Option Addr) (c0 : Nat) (l0 : List (S54)) (r : List Int) (w : World) (hr0 : Kd.C k54 w A0 l0.length l0) (hc0 : l0.length ≤ c0) (h : crierref20_Free.f k l0 = some r) :
    Calls Try.prog 83 #[.slice A0 l0.length c0] w fun e w' => ∃ v0_ : Value, e = .returned (v0_) ∧ Kd.R (Kd.int .i64) 3 w' w.heap.size (fun _ => True) v0_ r ∧ Below w.heap.size w w' := by
  have HR0 := Aside0.mk hr0
  have HC0 := Aside0.mk hc0
  clear hr0 hc0
  have HB := Aside0.mk (Below.refl w.heap.size w)
  have H : (crierref20_Free.l0 k l0 ([] : List Int) 0) = some r := h
  clear h
  have H' := Aside0.mk H
  clear H
  go_enter Try.func83, Try.ntmps83
  go_wp2
  go_loopg [3, 4] k (fun kq v3 v4 w' => ∃ (x3_1 : List Int) (x4_1 : Int), v4 = .int .i64 x4_1 ∧ Aside0 (crierref20_Free.l0 kq l0 x3_1 x4_1 = some r) ∧ Aside0 (kq ≤ k) ∧ Aside0 (Kd.R (Kd.int .i64) 3 w' w.heap.size (fun _ => True) v3 x3_1) ∧ Aside0 (Below w.heap.size w w'))
  case atStart => exact ⟨(([] : List Int)), (0), (by first | rfl | (simp; done) | (simp [*]; done) | (simp; exact (IntWalk.wrap64_in _ (by decide)).symm)), H', ⟨Nat.le_refl _⟩, ⟨by first | exact Kd.R_nil _ _ _ _ _ | exact Kd.N_nil _ _ _ _ _ | exact Kd.V_nil _ _ _ _ _ | exact Kd.Q_nil _ _ _ _ _ | exact Kd.S_nil _ _ _ _ _⟩, ⟨by repeat (first | (with_reducible first | exact HB.out | apply below_alloc | apply pw_below_drewN | apply below_drew1) | exact HB.out)⟩⟩
  case round =>
    clear H'
    obtain ⟨x3_1, x4_1, rfl, HA, HK1, HO_3, HB⟩ := hrel
    cases gk with
    | zero => exact absurd HA.out (by simp [crierref20_Free.l0])
    | succ k1 =>
      have H := HA.out
      clear HA
      simp only [crierref20_Free.l0] at H
      by_cases c2 : x4_1 < (l0.length : Int)
      · rw [if_pos c2] at H
        have c2b0 : decide (x4_1 < (l0.length : Int)) = true := decide_eq_true c2
        clear c2
        by_cases c3 : 0 ≤ x4_1
        · rw [if_pos c3] at H
          have c3b0 : decide (0 ≤ x4_1) = true := decide_eq_true c3
          clear c3
          by_cases c4 : ((rd_T54 l0 x4_1).f0) = 0
          · rw [if_pos c4] at H
            have c4b0 : (((rd_T54 l0 x4_1).f0) == 0) = true := beq_iff_eq.mpr c4
            have c4b1 : (((rd_T54 l0 x4_1).f0) != 0) = false := bne_eq_false_iff_eq.mpr c4
            clear c4
            by_cases c5 : x3_1.length < 17592186044416
            · rw [if_pos c5] at H
              have LMc5 := Aside0.mk c5
              clear c5
              obtain ⟨y135, hy135⟩ : ∃ y_ : List Int, y_ = (x3_1 ++ [x4_1]) := ⟨_, rfl⟩
              replace H : (crierref20_Free.l0 k1 l0 y135 (wrap64 (x4_1 + 1))) = some r := by first | (rw [hy135]; with_reducible exact H) | (have H2_ := (Option.bind_some _ _).symm.trans H; rw [hy135]; with_reducible exact H2_) | (have H2_ := (Option.bind_some _ _).symm.trans H; with_reducible exact H2_) | with_reducible exact H | (rw [hy135]; exact H) | exact H
              have Ny135 := Aside0.mk hy135
              clear hy135
              have H' := Aside0.mk H
              clear H
              have p134 : 0 ≤ (x4_1 : Int) := of_decide_eq_true (by first | (with_reducible assumption) | assumption)
              have q134 : x4_1 < (l0.length : Int) := of_decide_eq_true (by first | (with_reducible assumption) | assumption)
              obtain ⟨ad134, e134, hx134_0, hx134_1, hx134_2, hx134_3, hx134_4, hx134_5, hx134_6⟩ := at_T54 HR0.out x4_1 p134 q134
              cases e134
              replace hx134_0 := (HB.out.cell (World.block_lt_of_cell? w _ hx134_0)).trans hx134_0
              replace hx134_1 := (HB.out.cell (World.block_lt_of_cell? w _ hx134_1)).trans hx134_1
              replace hx134_2 := (HB.out.cell (World.block_lt_of_cell? w _ hx134_2)).trans hx134_2
              replace hx134_3 := (HB.out.cell (World.block_lt_of_cell? w _ hx134_3)).trans hx134_3
              replace hx134_4 := (HB.out.cell (World.block_lt_of_cell? w _ hx134_4)).trans hx134_4
              replace hx134_5 := (HB.out.cell (World.block_lt_of_cell? w _ hx134_5)).trans hx134_5
              replace hx134_6 := (HB.out.cell (World.block_lt_of_cell? w _ hx134_6)).trans hx134_6
              replace p134 := eq_true p134
              replace q134 := eq_true q134
              go_wp2_with (first | ((with_reducible refine gate_builtin (b := .append) (xs := #[.tmp 17, .tmp 19]) rfl ?_); at_builtin; refine Kd.R_append (Kd.int .i64) (w0 := w) w.heap.size rfl (.tmp 17) (.tmp 19) 71 3 (.int .i64 0) 8 rfl Try.underlying71 info3 rfl (by decide) (by omega) u3 x3_1 x4_1 [.int .i64 x4_1] (fun _ => True) (fun _ => False) rfl rfl ?aP (fun _ hk => hk.elim) ?aF ?aO ?aB ?aS ?aL ?_; (case aP => exact rfl); (case aB => exact (by repeat (first | (with_reducible first | exact HB.out | apply below_alloc | apply pw_below_drewN | apply below_drew1) | exact HB.out))); (case aF => exact (fun _ _ => trivial)); (case aO => exact (by (with_reducible repeat (first | apply Kd.R_alloc | apply Kd.R_drewN | apply Kd.R_drew)); exact HO_3.out)); (case aS => exact (below_size (by repeat (first | (with_reducible first | exact HB.out | apply below_alloc | apply pw_below_drewN | apply below_drew1) | exact HB.out)))); (case aL => have := LMc5.out; omega); intro v136 w6 ho hb hg hat; rw [← Ny135.out] at ho; have n0_ := Aside0.mk (hb); have n1_ := Aside0.mk (ho); clear HB; clear HO_3; have HB := n0_; have HO137 := n1_; clear n0_ n1_; clear ho hb hg hat))
              go_roundg k1
              case measure => have := HK1.out; omega
              case rel => exact ⟨(y135), (wrap64 (x4_1 + 1)), (by first | rfl | (simp; done) | (simp [*]; done) | (simp; exact (IntWalk.wrap64_in _ (by decide)).symm)), H', ⟨by have := HK1.out; omega⟩, ⟨by (with_reducible repeat (first | apply Kd.R_alloc | apply Kd.R_drewN | apply Kd.R_drew)); exact HO137.out⟩, ⟨by repeat (first | (with_reducible first | exact HB.out | apply below_alloc | apply pw_below_drewN | apply below_drew1) | exact HB.out)⟩⟩
            · rw [if_neg c5] at H
              exact absurd H (by simp)
          · rw [if_neg c4] at H
            have c4b0 : (((rd_T54 l0 x4_1).f0) == 0) = false := beq_eq_false_iff_ne.mpr c4
            have c4b1 : (((rd_T54 l0 x4_1).f0) != 0) = true := bne_iff_ne.mpr c4
            have H' := Aside0.mk H
            clear H
            have p134 : 0 ≤ (x4_1 : Int) := of_decide_eq_true (by first | (with_reducible assumption) | assumption)
            have q134 : x4_1 < (l0.length : Int) := of_decide_eq_true (by first | (with_reducible assumption) | assumption)
            obtain ⟨ad134, e134, hx134_0, hx134_1, hx134_2, hx134_3, hx134_4, hx134_5, hx134_6⟩ := at_T54 HR0.out x4_1 p134 q134
            cases e134
            replace hx134_0 := (HB.out.cell (World.block_lt_of_cell? w _ hx134_0)).trans hx134_0
            replace hx134_1 := (HB.out.cell (World.block_lt_of_cell? w _ hx134_1)).trans hx134_1
            replace hx134_2 := (HB.out.cell (World.block_lt_of_cell? w _ hx134_2)).trans hx134_2
            replace hx134_3 := (HB.out.cell (World.block_lt_of_cell? w _ hx134_3)).trans hx134_3
            replace hx134_4 := (HB.out.cell (World.block_lt_of_cell? w _ hx134_4)).trans hx134_4
            replace hx134_5 := (HB.out.cell (World.block_lt_of_cell? w _ hx134_5)).trans hx134_5
            replace hx134_6 := (HB.out.cell (World.block_lt_of_cell? w _ hx134_6)).trans hx134_6
            replace p134 := eq_true p134
            replace q134 := eq_true q134
            go_wp2
            go_roundg k1
            case measure => have := HK1.out; omega
            case rel => exact ⟨(x3_1), (wrap64 (x4_1 + 1)), (by first | rfl | (simp; done) | (simp [*]; done) | (simp; exact (IntWalk.wrap64_in _ (by decide)).symm)), H', ⟨by have := HK1.out; omega⟩, ⟨by (with_reducible repeat (first | apply Kd.R_alloc | apply Kd.R_drewN | apply Kd.R_drew)); exact HO_3.out⟩, ⟨by repeat (first | (with_reducible first | exact HB.out | apply below_alloc | apply pw_below_drewN | apply below_drew1) | exact HB.out)⟩⟩
        · rw [if_neg c3] at H
          exact absurd H (by simp)
      · rw [if_neg c2] at H
        have c2b0 : decide (x4_1 < (l0.length : Int)) = false := decide_eq_false c2
        clear c2
        obtain rfl := Option.some.inj H
        go_wp2
        go_ret
        exact ⟨_, by first | rfl | (simp [errW_none, errW_some] <;> rfl) | (simp [*, errW_none, errW_some] <;> rfl), by (with_reducible repeat (first | apply Kd.R_alloc | apply Kd.R_drewN | apply Kd.R_drew)); exact HO_3.out, by repeat (first | (with_reducible first | exact HB.out | apply below_alloc | apply pw_below_drewN | apply below_drew1) | exact HB.out)⟩
-- NOT PRINTED: function 59 (crierref21_Vcpu_Misr)
-- NOT PRINTED: function 36 (lr_Free)
-- NOT PRINTED: function 14 (lr_Used)
-- NOT PRINTED: function 50 (lr_Bits)
-- NOT PRINTED: function 51 (lr_Done)
-- NOT PRINTED: function 26 (vcpu_Vcpu_Asks)
-- NOT PRINTED: function 60 (crierlaw21_reasons)
-- NOT PRINTED: function 32 (crierlaw21_alike)
-- NOT PRINTED: function 61 (api_List)
-- NOT PRINTED: function 33 (vcpu_Vcpu_Copy)
end Go.Proofs.Ytkbaghblchlcnaa.IAll
-- Written by the program wip/gen/inj.py of this repository, out of the translation, for this claim. Not trusted: Lean checks it.
namespace Go.Proofs.Ytkbaghblchlcnaa.IAll
open Go.RowKit Go.Proofs.YtkbaghblchlcnaaW.PrintWords Go.Proofs.YtkbaghblchlcnaaW.PrintLast Go.Proofs.YtkbaghblchlcnaaW.PrintMore
attribute [local go_sem] max2_int min2_int max_two min_two max_three min_three max_four min_four   -- for this text's walks alone
set_option linter.unusedVariables false
set_option linter.unusedSimpArgs false
/-! ### crierref08_place: function 106 -/
-- NOT PRINTED: function 101 (crierref08_Ladder_Set)
-- NOT PRINTED: function 92 (crierref14_If_Take)
/-! ### crierref20_Find: function 93 -/
def crierref20_Find.l0 : Nat → List (S54) → Int → Int → Option (Int)
  | 0, _, _, _ => none
  | k + 1, x0, x1, x5 => if x5 < (x0.length : Int) then (if 0 ≤ x5 then (if ((rd_T54 x0 x5).f0) = 0 then (crierref20_Find.l0 k x0 x1 (wrap64 (x5 + 1))) else (if ((rd_T54 x0 x5).f1) = x1 then (some x5) else (crierref20_Find.l0 k x0 x1 (wrap64 (x5 + 1))))) else (none)) else (some (-1))
def crierref20_Find.f (k : Nat) (l0 : List (S54)) (a1 : Int) : Option (Int) := crierref20_Find.l0 k l0 a1 0
set_option maxHeartbeats 8000000 in
set_option maxRecDepth 100000 in
theorem crierref20_Find.calls (k : Nat) (A0 : Option Addr) (c0 : Nat) (l0 : List (S54)) (a1 : Int) (r : Int) (w : World) (hr0 : Kd.C k54 w A0 l0.length l0) (hc0 : l0.length ≤ c0) (h : crierref20_Find.f k l0 a1 = some r) :
    Calls Try.prog 93 #[.slice A0 l0.length c0, .int .i64 a1] w fun e w' => e = .returned (.int .i64 r) ∧ Drawn0 w w' := by
  have HR0 := Aside0.mk hr0
  have HC0 := Aside0.mk hc0
  clear hr0 hc0
  have H : (crierref20_Find.l0 k l0 a1 0) = some r := h
  clear h
  have H' := Aside0.mk H
  clear H
  go_enter Try.func93, Try.ntmps93
  go_wp2
  go_loopg [5] k (fun kq v5 w' => ∃ (x5_1 : Int), v5 = .int .i64 x5_1 ∧ Aside0 (crierref20_Find.l0 kq l0 a1 x5_1 = some r) ∧ Aside0 (kq ≤ k) ∧ Drawn0 w w')
  case atStart => exact ⟨(0), (by first | rfl | (simp; done) | (simp [*]; done) | (simp; exact (IntWalk.wrap64_in _ (by decide)).symm)), H', ⟨Nat.le_refl _⟩, by repeat (first | exact Drawn0.refl _ | apply Drawn0.step)⟩
  case round =>
    clear H'
    try clear p2
    obtain ⟨x5_1, rfl, HA, HK1, ⟨m1, rfl⟩⟩ := hrel
    cases gk with
    | zero => exact absurd HA.out (by simp [crierref20_Find.l0])
    | succ k1 =>
      have H := HA.out
      clear HA
      simp only [crierref20_Find.l0] at H
      by_cases c3 : x5_1 < (l0.length : Int)
      · rw [if_pos c3] at H
        have c3b0 : decide (x5_1 < (l0.length : Int)) = true := decide_eq_true c3
        clear c3
        by_cases c4 : 0 ≤ x5_1
        · rw [if_pos c4] at H
          have c4b0 : decide (0 ≤ x5_1) = true := decide_eq_true c4
          clear c4
          by_cases c5 : ((rd_T54 l0 x5_1).f0) = 0
          · rw [if_pos c5] at H
            have c5b0 : (((rd_T54 l0 x5_1).f0) == 0) = true := beq_iff_eq.mpr c5
            have c5b1 : (((rd_T54 l0 x5_1).f0) != 0) = false := bne_eq_false_iff_eq.mpr c5
            clear c5
            have H' := Aside0.mk H
            clear H
            have p146 : 0 ≤ (x5_1 : Int) := of_decide_eq_true (by first | (with_reducible assumption) | assumption)
            have q146 : x5_1 < (l0.length : Int) := of_decide_eq_true (by first | (with_reducible assumption) | assumption)
            obtain ⟨ad146, e146, hx146_0, hx146_1, hx146_2, hx146_3, hx146_4, hx146_5, hx146_6⟩ := at_T54 HR0.out x5_1 p146 q146
            cases e146
            replace p146 := eq_true p146
            replace q146 := eq_true q146
            go_wp2
            go_roundg k1
            case measure => have := HK1.out; omega
            case rel => exact ⟨(wrap64 (x5_1 + 1)), (by first | rfl | (simp; done) | (simp [*]; done) | (simp; exact (IntWalk.wrap64_in _ (by decide)).symm)), H', ⟨by have := HK1.out; omega⟩, by repeat (first | exact Drawn0.refl _ | apply Drawn0.step)⟩
          · rw [if_neg c5] at H
            have c5b0 : (((rd_T54 l0 x5_1).f0) == 0) = false := beq_eq_false_iff_ne.mpr c5
            have c5b1 : (((rd_T54 l0 x5_1).f0) != 0) = true := bne_iff_ne.mpr c5
            by_cases c6 : ((rd_T54 l0 x5_1).f1) = a1
            · rw [if_pos c6] at H
              have c6b0 : (((rd_T54 l0 x5_1).f1) == a1) = true := beq_iff_eq.mpr c6
              have c6b1 : (((rd_T54 l0 x5_1).f1) != a1) = false := bne_eq_false_iff_eq.mpr c6
              clear c6
              obtain rfl := Option.some.inj H
              have p146 : 0 ≤ (x5_1 : Int) := of_decide_eq_true (by first | (with_reducible assumption) | assumption)
              have q146 : x5_1 < (l0.length : Int) := of_decide_eq_true (by first | (with_reducible assumption) | assumption)
              obtain ⟨ad146, e146, hx146_0, hx146_1, hx146_2, hx146_3, hx146_4, hx146_5, hx146_6⟩ := at_T54 HR0.out x5_1 p146 q146
              cases e146
              replace p146 := eq_true p146
              replace q146 := eq_true q146
              have p147 : 0 ≤ (x5_1 : Int) := of_decide_eq_true (by first | (with_reducible assumption) | assumption)
              have q147 : x5_1 < (l0.length : Int) := of_decide_eq_true (by first | (with_reducible assumption) | assumption)
              obtain ⟨ad147, e147, hx147_0, hx147_1, hx147_2, hx147_3, hx147_4, hx147_5, hx147_6⟩ := at_T54 HR0.out x5_1 p147 q147
              obtain rfl : ad146 = ad147 := (by injection e147)
              replace p147 := eq_true p147
              replace q147 := eq_true q147
              go_wp2
              go_ret
              exact ⟨by first | rfl | (simp; done) | (simp [*]; done), by repeat (first | exact Drawn0.refl _ | apply Drawn0.step)⟩
            · rw [if_neg c6] at H
              have c6b0 : (((rd_T54 l0 x5_1).f1) == a1) = false := beq_eq_false_iff_ne.mpr c6
              have c6b1 : (((rd_T54 l0 x5_1).f1) != a1) = true := bne_iff_ne.mpr c6
              have H' := Aside0.mk H
              clear H
              have p146 : 0 ≤ (x5_1 : Int) := of_decide_eq_true (by first | (with_reducible assumption) | assumption)
              have q146 : x5_1 < (l0.length : Int) := of_decide_eq_true (by first | (with_reducible assumption) | assumption)
              obtain ⟨ad146, e146, hx146_0, hx146_1, hx146_2, hx146_3, hx146_4, hx146_5, hx146_6⟩ := at_T54 HR0.out x5_1 p146 q146
              cases e146
              replace p146 := eq_true p146
              replace q146 := eq_true q146
              have p147 : 0 ≤ (x5_1 : Int) := of_decide_eq_true (by first | (with_reducible assumption) | assumption)
              have q147 : x5_1 < (l0.length : Int) := of_decide_eq_true (by first | (with_reducible assumption) | assumption)
              obtain ⟨ad147, e147, hx147_0, hx147_1, hx147_2, hx147_3, hx147_4, hx147_5, hx147_6⟩ := at_T54 HR0.out x5_1 p147 q147
              obtain rfl : ad146 = ad147 := (by injection e147)
              replace p147 := eq_true p147
              replace q147 := eq_true q147
              go_wp2
              go_roundg k1
              case measure => have := HK1.out; omega
              case rel => exact ⟨(wrap64 (x5_1 + 1)), (by first | rfl | (simp; done) | (simp [*]; done) | (simp; exact (IntWalk.wrap64_in _ (by decide)).symm)), H', ⟨by have := HK1.out; omega⟩, by repeat (first | exact Drawn0.refl _ | apply Drawn0.step)⟩
        · rw [if_neg c4] at H
          exact absurd H (by simp)
      · rw [if_neg c3] at H
        have c3b0 : decide (x5_1 < (l0.length : Int)) = false := decide_eq_false c3
        clear c3
        obtain rfl := Option.some.inj H
        go_wp2
        go_ret
        exact ⟨by first | rfl | (simp; done) | (simp [*]; done), by repeat (first | exact Drawn0.refl _ | apply Drawn0.step)⟩
-- NOT PRINTED: function 84 (crierref21_Vcpu_Ack)
-- NOT PRINTED: function 85 (crierref14_If_Shows)
/-! ### crierref14_one: function 94 -/
-- NOT PRINTED: function 86 (crierref14_If_Read)
end Go.Proofs.Ytkbaghblchlcnaa.IAll
namespace Go.Proofs.Ytkbaghblchlcnaa.Lr
open Go.RowKit Go.Proofs.Ytkbaghblchlcnaa.IAll Go.Proofs.YtkbaghblchlcnaaW.PrintWords Go.Proofs.YtkbaghblchlcnaaW.PrintLast Go.Proofs.YtkbaghblchlcnaaW.PrintMore
theorem more_rounds {α : Type} {f : Nat → Option α} (hm : ∀ k, LeO (f k) (f (k + 1))) {k K : Nat} {r : α} (h : f k = some r) (hk : k ≤ K) : f K = some r := by
  obtain ⟨d, rfl⟩ : ∃ d, K = k + d := ⟨K - k, by omega⟩
  clear hk
  induction d with
  | zero => exact h
  | succ d ih => exact hm (k + d) r ih
theorem stp (i : Nat) (h : i < 16) : wrap64 ((i : Int) + 1) = ((i + 1 : Nat) : Int) := by rw [w64 _ (by omega)]; simp
theorem l_Waits (xs : List S54) (hl : xs.length ≤ 16) (m : Nat) : ∀ i : Nat, i + m = xs.length → crierref20_Waits.l0 (m + 1) xs (pl pWaits xs i) (i : Int) = some (places pWaits xs) := by
  induction m with
  | zero =>
    intro i hi
    obtain rfl : i = xs.length := by omega
    rw [crierref20_Waits.l0, if_neg (by omega)]; rfl
  | succ m ih =>
    intro i hi
    have hw := stp i (by omega)
    have e1 : (i : Int) < (xs.length : Int) := by clear hw; omega
    have e2 : (0 : Int) ≤ (i : Int) := by clear hw; omega
    have hlen : (pl pWaits xs i).length < 17592186044416 := by have := pl_length pWaits xs i; clear hw; omega
    have plT : pWaits (rd_T54 xs i) = true → pl pWaits xs i ++ [(i : Int)] = pl pWaits xs (i + 1) := fun h => by rw [pl, if_pos h]
    have plF : ¬ pWaits (rd_T54 xs i) = true → pl pWaits xs (i + 1) = pl pWaits xs i := fun h => by rw [pl, if_neg h, List.append_nil]
    rw [crierref20_Waits.l0, if_pos e1, if_pos e2]
    clear e1 e2
    by_cases h : (rd_T54 xs i).f0 = 1
    · have hp : pWaits (rd_T54 xs i) = true := by unfold pWaits; simp [h]
      rw [if_pos h, if_pos hlen, hw, plT hp]; exact ih (i + 1) (by omega)
    · have hp : ¬ pWaits (rd_T54 xs i) = true := by unfold pWaits; simp [h]
      rw [if_neg h, hw, ← plF hp]; exact ih (i + 1) (by omega)
theorem Waits_is (xs : List S54) (hl : xs.length ≤ 16) : crierref20_Waits.f (xs.length + 1) xs = some (places pWaits xs) := l_Waits xs hl xs.length 0 (by omega)
theorem l_Free (xs : List S54) (hl : xs.length ≤ 16) (m : Nat) : ∀ i : Nat, i + m = xs.length → crierref20_Free.l0 (m + 1) xs (pl pFree xs i) (i : Int) = some (places pFree xs) := by
  induction m with
  | zero =>
    intro i hi
    obtain rfl : i = xs.length := by omega
    rw [crierref20_Free.l0, if_neg (by omega)]; rfl
  | succ m ih =>
    intro i hi
    have hw := stp i (by omega)
    have e1 : (i : Int) < (xs.length : Int) := by clear hw; omega
    have e2 : (0 : Int) ≤ (i : Int) := by clear hw; omega
    have hlen : (pl pFree xs i).length < 17592186044416 := by have := pl_length pFree xs i; clear hw; omega
    have plT : pFree (rd_T54 xs i) = true → pl pFree xs i ++ [(i : Int)] = pl pFree xs (i + 1) := fun h => by rw [pl, if_pos h]
    have plF : ¬ pFree (rd_T54 xs i) = true → pl pFree xs (i + 1) = pl pFree xs i := fun h => by rw [pl, if_neg h, List.append_nil]
    rw [crierref20_Free.l0, if_pos e1, if_pos e2]
    clear e1 e2
    by_cases h : (rd_T54 xs i).f0 = 0
    · have hp : pFree (rd_T54 xs i) = true := by unfold pFree; simp [h]
      rw [if_pos h, if_pos hlen, hw, plT hp]; exact ih (i + 1) (by omega)
    · have hp : ¬ pFree (rd_T54 xs i) = true := by unfold pFree; simp [h]
      rw [if_neg h, hw, ← plF hp]; exact ih (i + 1) (by omega)
theorem Free_is (xs : List S54) (hl : xs.length ≤ 16) : crierref20_Free.f (xs.length + 1) xs = some (places pFree xs) := l_Free xs hl xs.length 0 (by omega)
theorem l_Done (xs : List S54) (hl : xs.length ≤ 16) (m : Nat) : ∀ i : Nat, i + m = xs.length → crierref20_Done.l0 (m + 1) xs (pl pDone xs i) (i : Int) = some (places pDone xs) := by
  induction m with
  | zero =>
    intro i hi
    obtain rfl : i = xs.length := by omega
    rw [crierref20_Done.l0, if_neg (by omega)]; rfl
  | succ m ih =>
    intro i hi
    have hw := stp i (by omega)
    have e1 : (i : Int) < (xs.length : Int) := by clear hw; omega
    have e2 : (0 : Int) ≤ (i : Int) := by clear hw; omega
    have hlen : (pl pDone xs i).length < 17592186044416 := by have := pl_length pDone xs i; clear hw; omega
    have plT : pDone (rd_T54 xs i) = true → pl pDone xs i ++ [(i : Int)] = pl pDone xs (i + 1) := fun h => by rw [pl, if_pos h]
    have plF : ¬ pDone (rd_T54 xs i) = true → pl pDone xs (i + 1) = pl pDone xs i := fun h => by rw [pl, if_neg h, List.append_nil]
    rw [crierref20_Done.l0, if_pos e1, if_pos e2]
    clear e1 e2
    by_cases h : (rd_T54 xs i).f0 = 0
    · rw [if_pos h]
      by_cases h2 : (rd_T54 xs i).f6 = true
      · rw [if_pos h2]
        by_cases h3 : (rd_T54 xs i).f4 = true
        · have hp : ¬ pDone (rd_T54 xs i) = true := by unfold pDone; simp [h3]
          rw [if_pos h3, hw, ← plF hp]; exact ih (i + 1) (by omega)
        · have hp : pDone (rd_T54 xs i) = true := by unfold pDone; simp [h, h2, h3]
          rw [if_neg h3, if_pos hlen, hw, plT hp]; exact ih (i + 1) (by omega)
      · have hp : ¬ pDone (rd_T54 xs i) = true := by unfold pDone; simp [h2]
        rw [if_neg h2, hw, ← plF hp]; exact ih (i + 1) (by omega)
    · have hp : ¬ pDone (rd_T54 xs i) = true := by unfold pDone; simp [h]
      rw [if_neg h, hw, ← plF hp]; exact ih (i + 1) (by omega)
theorem Done_is (xs : List S54) (hl : xs.length ≤ 16) : crierref20_Done.f (xs.length + 1) xs = some (places pDone xs) := l_Done xs hl xs.length 0 (by omega)
theorem pl_none (p : S54 → Bool) (xs : List S54) (n : Nat) (h : ∀ j : Nat, j < n → ¬ p (rd_T54 xs j) = true) : pl p xs n = [] := by
  induction n with
  | zero => rfl
  | succ n ih => rw [pl, ih (fun j hj => h j (by omega)), if_neg (h n (by omega))]; rfl
theorem find_first (xs : List S54) (id : Int) (i : Nat) (hi : i < xs.length) (h : pFind id (rd_T54 xs i) = true) (hb : ∀ j : Nat, j < i → ¬ pFind id (rd_T54 xs j) = true) : findOf xs id = (i : Int) := by
  obtain ⟨post, hp⟩ := places_at (pFind id) xs i hi h
  unfold findOf
  rw [hp, pl_none _ _ _ hb]; rfl
theorem find_none (xs : List S54) (id : Int) (hb : ∀ j : Nat, j < xs.length → ¬ pFind id (rd_T54 xs j) = true) : findOf xs id = -1 := by
  unfold findOf places
  rw [pl_none _ _ _ hb]; rfl
theorem l_Find (xs : List S54) (hl : xs.length ≤ 16) (id : Int) (m : Nat) : ∀ i : Nat, i + m = xs.length → (∀ j : Nat, j < i → ¬ pFind id (rd_T54 xs j) = true) → crierref20_Find.l0 (m + 1) xs id (i : Int) = some (findOf xs id) := by
  induction m with
  | zero =>
    intro i hi hb
    obtain rfl : i = xs.length := by omega
    rw [crierref20_Find.l0, if_neg (by omega), find_none xs id hb]
  | succ m ih =>
    intro i hi hb
    have hw := stp i (by omega)
    have e1 : (i : Int) < (xs.length : Int) := by clear hw; omega
    have e2 : (0 : Int) ≤ (i : Int) := by clear hw; omega
    rw [crierref20_Find.l0, if_pos e1, if_pos e2]
    have next : ¬ pFind id (rd_T54 xs i) = true → ∀ j : Nat, j < i + 1 → ¬ pFind id (rd_T54 xs j) = true := fun h j hj => by
      by_cases e : j = i
      · subst e; exact h
      · exact hb j (by clear hw; omega)
    by_cases h : (rd_T54 xs i).f0 = 0
    · have hp : ¬ pFind id (rd_T54 xs i) = true := by unfold pFind; simp [h]
      rw [if_pos h, hw]; exact ih (i + 1) (by omega) (next hp)
    · rw [if_neg h]
      by_cases h2 : (rd_T54 xs i).f1 = id
      · have hp : pFind id (rd_T54 xs i) = true := by unfold pFind; simp [h, h2]
        rw [if_pos h2, find_first xs id i (by omega) hp hb]
      · have hp : ¬ pFind id (rd_T54 xs i) = true := by unfold pFind; simp [h2]
        rw [if_neg h2, hw]; exact ih (i + 1) (by omega) (next hp)
theorem Find_is (xs : List S54) (hl : xs.length ≤ 16) (id : Int) : crierref20_Find.f (xs.length + 1) xs id = some (findOf xs id) := l_Find xs hl id xs.length 0 (by omega) (fun j hj => by omega)
/-- the best one -/
theorem before_is (p a q b : Int) : crierref06_Before.f p a q b = some (before p a q b) := by
  unfold crierref06_Before.f before
  by_cases h : p = q
  · subst h; rw [if_pos rfl]; simp
  · rw [if_neg h]; simp [h]
theorem l_Best (xs : List S54) (ws : List Int) (hws : ∀ x ∈ ws, 0 ≤ x ∧ x < xs.length) (hl : ws.length ≤ 16) (m : Nat) : ∀ (i : Nat) (c : Cand), i + m = ws.length →
    crierref20_Best.l0 (m + 1) xs ws (ws.length : Int) (i : Int) c.id c.pr c.gr c.is = some (((ws.drop i).foldl (bestStep xs) c).id, ((ws.drop i).foldl (bestStep xs) c).pr, ((ws.drop i).foldl (bestStep xs) c).gr, ((ws.drop i).foldl (bestStep xs) c).is) := by
  induction m with
  | zero =>
    intro i c hi
    rw [crierref20_Best.l0, if_neg (by omega), List.drop_of_length_le (by omega)]; rfl
  | succ m ih =>
    intro i c hi
    have hw := stp i (by omega)
    have hil : i < ws.length := by clear hw; omega
    have e1 : (i : Int) < (ws.length : Int) := by clear hw; omega
    have e2 : (0 : Int) ≤ (i : Int) := by clear hw; omega
    have er : rd ws (i : Int) = ws[i] := by unfold rd; simp [hil]
    obtain ⟨b1, b2⟩ := hws ws[i] (List.getElem_mem hil)
    rw [crierref20_Best.l0, if_pos e1, if_pos e2, if_pos e1, er, if_pos b1, if_pos b2, List.drop_eq_getElem_cons hil, List.foldl_cons, hw]
    clear hw e1 e2 er b1 b2
    generalize ws[i] = x
    have key := ih (i + 1) (bestStep xs c x) (by omega)
    rw [before_is]
    simp only [Option.bind_some]
    unfold bestStep at key ⊢
    cases hc : c.is with
    | false =>
      rw [hc] at key
      simp only [Bool.not_false, Bool.true_or, if_true] at key ⊢
      exact key
    | true =>
      rw [hc] at key
      simp only [Bool.not_true, Bool.false_or, if_true] at key ⊢
      by_cases hb : before (rd_T54 xs x).f2 (rd_T54 xs x).f1 c.pr c.id = true
      · simp only [hb, if_true] at key ⊢
        exact key
      · simp only [hb, if_false, Bool.false_eq_true] at key ⊢
        rw [hc] at key
        exact key
theorem Best_is (xs : List S54) (hl : xs.length ≤ 16) : crierref20_Best.f 40 xs = some ((bestOf xs (places pWaits xs)).id, (bestOf xs (places pWaits xs)).pr, (bestOf xs (places pWaits xs)).gr, (bestOf xs (places pWaits xs)).is) := by
  unfold crierref20_Best.f
  have h1 := more_rounds (fun k => crierref20_Waits.mono xs k) (Waits_is xs hl) (show xs.length + 1 ≤ 40 by omega)
  rw [h1]
  simp only [Option.bind_some]
  have hlen : (places pWaits xs).length ≤ 16 := by have := pl_length pWaits xs xs.length; exact Nat.le_trans this hl
  have h2 := l_Best xs (places pWaits xs) (fun x hx => by have := pl_mem pWaits xs xs.length x hx; exact ⟨this.1, this.2.1⟩) hlen (places pWaits xs).length 0 Cand.zero (by omega)
  exact more_rounds (fun k => (crierref20_Best.mono_l k) _ _ _ _ _ _ _ _) h2 (by omega)
end Go.Proofs.Ytkbaghblchlcnaa.Lr
namespace Go.Proofs.Ytkbaghblchlcnaa.Lr
open Go.RowKit Go.Proofs.Ytkbaghblchlcnaa.IAll Go.Proofs.YtkbaghblchlcnaaW.PrintWords Go.Proofs.YtkbaghblchlcnaaW.PrintLast Go.Proofs.YtkbaghblchlcnaaW.PrintMore
theorem rinner (l : List S54) (hl : l.length ≤ 16) (i : Nat) (hi : i < l.length) (m : Nat) : ∀ (K j : Nat), j + m = i →
    ((∃ q : Nat, j ≤ q ∧ q < i ∧ clash (rd_T54 l i) (rd_T54 l q)) → crierref20_Right.l1 (m + 1 + K) l (i : Int) (j : Int) = some 200) ∧
    ((¬ ∃ q : Nat, j ≤ q ∧ q < i ∧ clash (rd_T54 l i) (rd_T54 l q)) → crierref20_Right.l1 (m + 1 + K) l (i : Int) (j : Int) = crierref20_Right.l0 K l ((i + 1 : Nat) : Int)) := by
  induction m with
  | zero =>
    intro K j hj
    have hw := stp i (by omega)
    rw [show 0 + 1 + K = K + 1 by omega, crierref20_Right.l1, if_neg (show ¬ (j : Int) < (i : Int) by omega), hw]
    exact ⟨fun ⟨q, h1, h2, _⟩ => by omega, fun _ => rfl⟩
  | succ m ih =>
    intro K j hj
    have hw := stp j (by omega)
    have hji : j < i := by clear hw ih; omega
    have e1 : (j : Int) < (i : Int) := Int.ofNat_lt.2 hji
    have e2 : (0 : Int) ≤ (j : Int) := Int.natCast_nonneg j
    have e3 : (i : Int) < (l.length : Int) := Int.ofNat_lt.2 hi
    have e4 : (0 : Int) ≤ (i : Int) := Int.natCast_nonneg i
    have e5 : (j : Int) < (l.length : Int) := Int.lt_trans e1 e3
    rw [show m + 1 + 1 + K = (m + 1 + K) + 1 by omega, crierref20_Right.l1, if_pos e1, if_pos e4, if_pos e3, if_pos e2, if_pos e5, hw]
    clear hw
    obtain ⟨i1, i2⟩ := ih K (j + 1) (by omega)
    have split : (∃ q : Nat, j ≤ q ∧ q < i ∧ clash (rd_T54 l i) (rd_T54 l q)) ↔ clash (rd_T54 l i) (rd_T54 l j) ∨ ∃ q : Nat, j + 1 ≤ q ∧ q < i ∧ clash (rd_T54 l i) (rd_T54 l q) := by
      constructor
      · rintro ⟨q, h1, h2, h3⟩
        by_cases e : q = j
        · subst e; exact .inl h3
        · exact .inr ⟨q, by omega, h2, h3⟩
      · rintro (h | ⟨q, h1, h2, h3⟩)
        · exact ⟨j, Nat.le_refl _, hji, h⟩
        · exact ⟨q, by omega, h2, h3⟩
    rw [split]
    by_cases c1 : (rd_T54 l i).f0 = 0
    · rw [if_pos c1]
      have hn : ¬ clash (rd_T54 l i) (rd_T54 l j) := fun h => h.1 c1
      exact ⟨fun h => i1 (h.resolve_left hn), fun h => i2 (fun h' => h (.inr h'))⟩
    · rw [if_neg c1]
      by_cases c2 : (rd_T54 l j).f0 = 0
      · rw [if_pos c2]
        have hn : ¬ clash (rd_T54 l i) (rd_T54 l j) := fun h => h.2.1 c2
        exact ⟨fun h => i1 (h.resolve_left hn), fun h => i2 (fun h' => h (.inr h'))⟩
      · rw [if_neg c2]
        by_cases c3 : (rd_T54 l i).f1 = (rd_T54 l j).f1
        · rw [if_pos c3]
          exact ⟨fun _ => rfl, fun h => absurd (.inl ⟨c1, c2, c3⟩) h⟩
        · rw [if_neg c3]
          have hn : ¬ clash (rd_T54 l i) (rd_T54 l j) := fun h => c3 h.2.2
          exact ⟨fun h => i1 (h.resolve_left hn), fun h => i2 (fun h' => h (.inr h'))⟩
theorem router (l : List S54) (hl : l.length ≤ 16) (m : Nat) : ∀ (K i : Nat), i + m = l.length →
    ((∃ a : Nat, i ≤ a ∧ a < l.length ∧ badAt l a) → crierref20_Right.l0 (20 * m + 3 + K) l (i : Int) = some 200) ∧
    ((¬ ∃ a : Nat, i ≤ a ∧ a < l.length ∧ badAt l a) → crierref20_Right.l0 (20 * m + 3 + K) l (i : Int) = some 0) := by
  induction m with
  | zero =>
    intro K i hi
    rw [show 20 * 0 + 3 + K = (K + 2) + 1 by omega, crierref20_Right.l0, if_neg (show ¬ (i : Int) < (l.length : Int) by omega)]
    exact ⟨fun ⟨q, h1, h2, _⟩ => by omega, fun _ => rfl⟩
  | succ m ih =>
    intro K i hi
    have hil : i < l.length := by clear ih; omega
    have e1 : (i : Int) < (l.length : Int) := Int.ofNat_lt.2 hil
    have e2 : (0 : Int) ≤ (i : Int) := Int.natCast_nonneg i
    rw [show 20 * (m + 1) + 3 + K = (20 * m + 20 + K + 2) + 1 by omega, crierref20_Right.l0, if_pos e1, if_pos e2, show 20 * m + 20 + K + 2 = (20 * m + 19 + K) + 3 by omega, rmay_is, Option.bind_some]
    have split : (∃ a : Nat, i ≤ a ∧ a < l.length ∧ badAt l a) ↔ badAt l i ∨ ∃ a : Nat, i + 1 ≤ a ∧ a < l.length ∧ badAt l a := by
      constructor
      · rintro ⟨q, h1, h2, h3⟩
        by_cases e : q = i
        · subst e; exact .inl h3
        · exact .inr ⟨q, by omega, h2, h3⟩
      · rintro (h | ⟨q, h1, h2, h3⟩)
        · exact ⟨i, Nat.le_refl _, hil, h⟩
        · exact ⟨q, by omega, h2, h3⟩
    rw [split]
    by_cases hk : okS (rd_T54 l i)
    · have hk' : ok (rd_T54 l i).f0 (rd_T54 l i).f1 (rd_T54 l i).f2 (rd_T54 l i).f3 (rd_T54 l i).f4 (rd_T54 l i).f5 (rd_T54 l i).f6 := hk
      rw [decide_eq_true hk', if_pos rfl, show 20 * m + 19 + K + 3 = i + 1 + (20 * m + 3 + (18 - i + K)) by omega]
      obtain ⟨j1, j2⟩ := rinner l hl i hil i (20 * m + 3 + (18 - i + K)) 0 (by omega)
      obtain ⟨i1, i2⟩ := ih (18 - i + K) (i + 1) (by omega)
      by_cases hq : ∃ q : Nat, 0 ≤ q ∧ q < i ∧ clash (rd_T54 l i) (rd_T54 l q)
      · have := j1 hq
        simp only [Int.natCast_zero] at this
        rw [this]
        obtain ⟨q, _, hq1, hq2⟩ := hq
        exact ⟨fun _ => rfl, fun h => absurd (.inl (.inr ⟨q, hq1, hq2⟩)) h⟩
      · have := j2 hq
        simp only [Int.natCast_zero] at this
        rw [this]
        have hn : ¬ badAt l i := by
          rintro (h | ⟨q, hq1, hq2⟩)
          · exact h hk
          · exact hq ⟨q, Nat.zero_le _, hq1, hq2⟩
        exact ⟨fun h => i1 (h.resolve_left hn), fun h => i2 (fun h' => h (.inr h'))⟩
    · have hk' : ¬ ok (rd_T54 l i).f0 (rd_T54 l i).f1 (rd_T54 l i).f2 (rd_T54 l i).f3 (rd_T54 l i).f4 (rd_T54 l i).f5 (rd_T54 l i).f6 := hk
      rw [decide_eq_false hk', if_neg (by decide)]
      exact ⟨fun _ => rfl, fun h => absurd (.inl (.inl hk)) h⟩
/-- may they stand beside one another? -/
def goodL (l : List S54) : Prop := ¬ ∃ a : Nat, a < l.length ∧ badAt l a
theorem rright_bad (l : List S54) (hl : l.length ≤ 16) (h : ¬ goodL l) : crierref20_Right.f 400 l = some 200 := by
  unfold crierref20_Right.f
  rw [if_neg (by omega), show 400 = 20 * l.length + 3 + (397 - 20 * l.length) by omega]
  obtain ⟨a, h1, h2⟩ := Classical.not_not.1 h
  exact (router l hl l.length _ 0 (by omega)).1 ⟨a, Nat.zero_le _, h1, h2⟩
theorem rright_good (l : List S54) (hl : l.length ≤ 16) (h : goodL l) : crierref20_Right.f 400 l = some 0 := by
  unfold crierref20_Right.f
  rw [if_neg (by omega), show 400 = 20 * l.length + 3 + (397 - 20 * l.length) by omega]
  exact (router l hl l.length _ 0 (by omega)).2 (fun ⟨a, _, h1, h2⟩ => h ⟨a, h1, h2⟩)
theorem lright_bad (l : List S54) (hl : l.length ≤ 16) (h : ¬ goodL l) : lr_Right.f 400 l = some 200 := right_bad l hl 0 (Classical.not_not.1 h)
theorem lright_good (l : List S54) (hl : l.length ≤ 16) (h : goodL l) : lr_Right.f 400 l = some 0 := right_good l hl 0 h
theorem l_same (xs : List S54) (hl : xs.length ≤ 4611686018427387904) (m : Nat) : ∀ i : Nat, i + m = xs.length → crierlaw21_same.l0 (m + 1) xs xs (i : Int) = some true := by
  induction m with
  | zero =>
    intro i hi
    rw [crierlaw21_same.l0, if_neg (by omega)]
  | succ m ih =>
    intro i hi
    have hw : wrap64 ((i : Int) + 1) = ((i + 1 : Nat) : Int) := by rw [w64 _ (by omega)]; simp
    have e1 : (i : Int) < (xs.length : Int) := by clear hw; omega
    have e2 : (0 : Int) ≤ (i : Int) := by clear hw; omega
    rw [crierlaw21_same.l0, if_pos e1, if_pos e2, if_pos e1, if_neg (by simp), hw]
    exact ih (i + 1) (by omega)
theorem same_is (xs : List S54) (hl : xs.length ≤ 4611686018427387904) : crierlaw21_same.f (xs.length + 1) xs xs = some true := by
  unfold crierlaw21_same.f
  rw [if_pos rfl]
  exact l_same xs hl xs.length 0 (by omega)
end Go.Proofs.Ytkbaghblchlcnaa.Lr
namespace Go.Proofs.Ytkbaghblchlcnaa.Lr
open Go.RowKit Go.Shelf Go.Proofs.YtkbaghblchlcnaaW.PrintWords Go.Proofs.Ytkbaghblchlcnaa.IAll
theorem below_drawn0 {w w' : World} (h : Drawn0 w w') : Below w.heap.size w w' := by
  obtain ⟨n, rfl⟩ := h
  exact ⟨rfl, rfl, rfl, Nat.le_refl _, fun _ _ => rfl⟩
section
variable {bl : Nat} {xs : List S54} (hx : xs.length ≤ 16) {W : World} (h : isRow W bl) (h' : rowAt W bl = FA xs)
include hx h h'
theorem rfind (id : Int) : Calls Try.prog 93 #[.slice (some ⟨bl, 0, none⟩) xs.length xs.length, .int .i64 id] W fun e w' => e = .returned (.int .i64 (findOf xs id)) ∧ Below W.heap.size W w' :=
  (crierref20_Find.calls (xs.length + 1) _ _ xs id _ W (fa_kd h h' (by omega)) (Nat.le_refl _) (Find_is xs hx id)).mono fun _ _ ⟨h1, h2⟩ => ⟨h1, below_drawn0 h2⟩
theorem rbest : Calls Try.prog 58 #[.slice (some ⟨bl, 0, none⟩) xs.length xs.length] W fun e w' => e = .returned (.agg #[.int .i64 (bestOf xs (places pWaits xs)).id, .int .i64 (bestOf xs (places pWaits xs)).pr, .int .i64 (bestOf xs (places pWaits xs)).gr, .bool (bestOf xs (places pWaits xs)).is]) ∧ Below W.heap.size W w' :=
  crierref20_Best.calls 40 _ _ xs _ _ _ _ W (fa_kd h h' (by omega)) (Nat.le_refl _) (Best_is xs hx)
end
/-- each state is one of four -/
def stOk (xs : List S54) : Prop := ∀ k : Nat, k < xs.length → (rd_T54 xs k).f0 ≤ 3
theorem rend_c (g bl : Nat) (R : Array Value) (hR : R.size = 70) (xs : List S54) (hx : xs.length ≤ 16) (hst : stOk xs) (lost id : Int) (hlo : 0 ≤ lost) (hlo2 : lost ≤ 4611686018427387904) (hne : ¬ g = bl) (w : World)
    (hr : isRow w g) (hr' : rowAt w g = RV R (.slice (some ⟨bl, 0, none⟩) xs.length xs.length) (.int .i64 lost)) (hl : isRow w bl) (hl' : rowAt w bl = FA xs) :
    Calls Try.prog 97 #[.pointer (some ⟨g, 0, none⟩), .int .i64 id] w fun e w' => e = .returned (.tuple #[.bool (endOk xs id), .int .i64 (endM xs id)]) ∧
      Row w' g (RV R (.slice (some ⟨bl, 0, none⟩) xs.length xs.length) (.int .i64 (endLost xs id lost))) ∧ Row w' bl (FA (endXs xs id)) ∧ Aside2 g bl w w' := by
  have hne' : ¬ bl = g := fun e => hne e.symm
  have HF := Lib.hid (fun (W : World) (h : isRow W bl) (h' : rowAt W bl = FA xs) => rfind hx h h' id)
  rcases find_range xs id with hf | ⟨k, hf, hk, _, _⟩
  · have hok : endOk xs id = false := by unfold endOk; rw [hf]; rfl
    have hm : endM xs id = -1 := by unfold endM; rw [hok]; rfl
    have hxs : endXs xs id = xs := by unfold endXs; rw [hok]; rfl
    rw [hok, hm, hxs]
    rw [hf] at HF
    by_cases hid : id < 1020
    · have hlost : endLost xs id lost = lost + 1 := by unfold endLost; rw [hok, if_pos hid]; rfl
      rw [hlost]
      exact rend_A g bl R hR xs.length (FA xs) lost id w hr hr' hl hl' hne hne' hlo hlo2 hid HF
    · have hlost : endLost xs id lost = lost := by unfold endLost; rw [hok, if_neg hid]; rfl
      rw [hlost]
      exact rend_B g bl R hR xs.length (FA xs) lost id w hr hr' hl hl' hne hne' hlo hlo2 hid HF
  · rw [hf] at HF
    obtain ⟨c0, _, _, _, c4, c5, _⟩ := FA_gets xs k hk
    have hs3 := hst k hk
    by_cases h2 : 2 ≤ (rd_T54 xs k).f0
    · have hok : endOk xs id = true := by unfold endOk; rw [hf, decide_eq_true (show (0 : Int) ≤ (k : Int) by omega), decide_eq_true h2]; rfl
      have hxs : endXs xs id = setSt xs k ((rd_T54 xs k).f0 - 2) := by unfold endXs; rw [hok, if_pos rfl, hf, Int.toNat_natCast]
      have hlost : endLost xs id lost = lost := by unfold endLost; rw [hok]; rfl
      rw [hok, hxs, hlost, ← FA_set xs k _ hk]
      cases h4 : (rd_T54 xs k).f4 with
      | true =>
        have hm : endM xs id = (rd_T54 xs k).f5 := by unfold endM; rw [hok, if_pos rfl, hf, if_pos h4]
        rw [hm]
        rw [h4] at c4
        exact rend_E g bl R hR xs.length (FA xs) lost id w hr hr' hl hl' hne hne' hlo hlo2 k hk _ c0 _ c4 c5 h2 hs3 HF
      | false =>
        have hm : endM xs id = -1 := by unfold endM; rw [hok, if_pos rfl, hf, if_neg (by rw [h4]; decide)]
        rw [hm]
        rw [h4] at c4
        exact rend_F g bl R hR xs.length (FA xs) lost id w hr hr' hl hl' hne hne' hlo hlo2 k hk _ c0 c4 h2 hs3 HF
    · have hok : endOk xs id = false := by unfold endOk; rw [hf, decide_eq_false h2]; simp
      have hm : endM xs id = -1 := by unfold endM; rw [hok]; rfl
      have hxs : endXs xs id = xs := by unfold endXs; rw [hok]; rfl
      rw [hok, hm, hxs]
      by_cases hid : id < 1020
      · have hlost : endLost xs id lost = lost + 1 := by unfold endLost; rw [hok, if_pos hid]; rfl
        rw [hlost]
        exact rend_C g bl R hR xs.length (FA xs) lost id w hr hr' hl hl' hne hne' hlo hlo2 k hk _ c0 (by omega) hid HF
      · have hlost : endLost xs id lost = lost := by unfold endLost; rw [hok, if_neg hid]; rfl
        rw [hlost]
        exact rend_D g bl R hR xs.length (FA xs) lost id w hr hr' hl hl' hne hne' hlo hlo2 k hk _ c0 (by omega) hid HF
end Go.Proofs.Ytkbaghblchlcnaa.Lr
namespace Go.Proofs.Ytkbaghblchlcnaa
open Go.RowKit Go.Shelf
attribute [local go_sem] Oper.semAt_some cell_row frozen_row isRow_setCell_eq rowAt_setCell_same rowAt_setCell_other isRow_alloc_eq rowAt_alloc rowAt_new isRow_setRow_eq rowAt_setRow_same rowAt_setRow_other isRow_drew rowAt_drew size_setRow_ Lb_size Lb_at blk_ptr aggOf_agg below_alloc_r below_setCell_r below_setRow_r below_drew_r le_add_r RC_size RC_get0 RC_at0 RC_set0 RC_get1 RC_at1 RC_set1 RC_get2 RC_at2 RC_set2 RC_get3 RC_at3 RC_set3 RC_get4 RC_at4 RC_set4 RC_get5 RC_at5 RC_set5 zeroF RC_ext RC_spl RC_one offv_ptr one_lad zero_lad allOne_nil allOne_cons Value.oneCell' zero_rc zero_rc2
attribute [local go_sem ↓] loadF storeF loadA storeA loadM storeM
attribute [local go_sem] eq2i eq2b
set_option maxRecDepth 100000 in
set_option maxHeartbeats 1000000 in
theorem Alike14_c (m p0 p1 : Int) (o0 o1 sp : Bool) (a b : Int) (ha : 0 ≤ a) (ha' : a ≤ 4294967295) (hb : 0 ≤ b) (hb' : b ≤ 4294967295) (w : World) : Calls Try.prog 57 #[.agg #[.int .i64 m, .int .i64 p0, .int .i64 p1, .bool o0, .bool o1, .bool sp, .int .u32 a, .int .u32 b], .agg (RC m p0 p1 o0 o1 sp (rb a b))] w fun e w' => e = .returned (.bool true) ∧ Below w.heap.size w w' := by
  have f5 := fun W : World => rBits_c a b ha ha' hb hb' 0 (.inl rfl) W
  have f6 := fun W : World => rBits_c a b ha ha' hb hb' 1 (.inr rfl) W
  generalize hF : rb a b = f at *
  clear hF
  have F5 := Lib.hid f5
  have F6 := Lib.hid f6
  clear f5 f6 ha ha' hb hb'
  have hB0 : Below w.heap.size w ((w.alloc (.cells #[.int .i64 m, .int .i64 p0, .int .i64 p1, .bool o0, .bool o1, .bool sp, .int .u32 a, .int .u32 b] 35)).alloc (.cells (RC m p0 p1 o0 o1 sp f) 107)) := ((Below.refl _ w).alloc (Nat.le_refl _) _).alloc (by simp) _
  obtain ⟨R0, R0'⟩ : Row ((w.alloc (.cells #[.int .i64 m, .int .i64 p0, .int .i64 p1, .bool o0, .bool o1, .bool sp, .int .u32 a, .int .u32 b] 35)).alloc (.cells (RC m p0 p1 o0 o1 sp f) 107)) w.heap.size #[.int .i64 m, .int .i64 p0, .int .i64 p1, .bool o0, .bool o1, .bool sp, .int .u32 a, .int .u32 b] := Row.of ((BoxN.new w 35 #[.int .i64 m, .int .i64 p0, .int .i64 p1, .bool o0, .bool o1, .bool sp, .int .u32 a, .int .u32 b]).alloc _)
  obtain ⟨R1, R1'⟩ : Row ((w.alloc (.cells #[.int .i64 m, .int .i64 p0, .int .i64 p1, .bool o0, .bool o1, .bool sp, .int .u32 a, .int .u32 b] 35)).alloc (.cells (RC m p0 p1 o0 o1 sp f) 107)) (w.heap.size + 1) (RC m p0 p1 o0 o1 sp f) := (by (have this := BoxN.new (w.alloc (.cells #[.int .i64 m, .int .i64 p0, .int .i64 p1, .bool o0, .bool o1, .bool sp, .int .u32 a, .int .u32 b] 35)) 107 (RC m p0 p1 o0 o1 sp f); rw [World.size_alloc] at this; exact Row.of this))
  go_enter Try.func57, Try.ntmps57
  go_wp2_with fail
  generalize (w.alloc (.cells #[.int .i64 m, .int .i64 p0, .int .i64 p1, .bool o0, .bool o1, .bool sp, .int .u32 a, .int .u32 b] 35)).alloc (.cells (RC m p0 p1 o0 o1 sp f) 107) = W0 at *
  (first | go_region_held3 (fun w' => isRow w' w.heap.size ∧ rowAt w' w.heap.size = #[.int .i64 m, .int .i64 p0, .int .i64 p1, .bool o0, .bool o1, .bool sp, .int .u32 a, .int .u32 b] ∧ isRow w' (w.heap.size + 1) ∧ rowAt w' (w.heap.size + 1) = (RC m p0 p1 o0 o1 sp f) ∧ Below w.heap.size w w')
    (first | exact ⟨R0, R0', R1, R1', below_drew0 hB0⟩ | (go_split_ands; exact ⟨rk1 (by assumption) hb, rk2 (by assumption) (by assumption) hb, rk1 (by assumption) hb, rk2 (by assumption) (by assumption) hb, bk (by assumption) (Below.size (by assumption)) hb⟩))
    ((go_at_call 79; ((first | (with_reducible refine (F5.out _).mono ?_) | (with_reducible refine (F6.out _).mono ?_)); rintro e w4 ⟨rfl, hb⟩))) | fail)
  go_split_ands
  go_wp2
  go_ret
  exact ⟨rfl, by assumption⟩
end Go.Proofs.Ytkbaghblchlcnaa
namespace Go.Proofs.Ytkbaghblchlcnaa
open Go.RowKit Go.Shelf
attribute [local go_sem] Oper.semAt_some cell_row frozen_row isRow_setCell_eq rowAt_setCell_same rowAt_setCell_other isRow_alloc_eq rowAt_alloc rowAt_new isRow_setRow_eq rowAt_setRow_same rowAt_setRow_other isRow_drew rowAt_drew size_setRow_ Lb_size Lb_at blk_ptr aggOf_agg below_alloc_r below_setCell_r below_setRow_r below_drew_r le_add_r RC_size RC_get0 RC_at0 RC_set0 RC_get1 RC_at1 RC_set1 RC_get2 RC_at2 RC_set2 RC_get3 RC_at3 RC_set3 RC_get4 RC_at4 RC_set4 RC_get5 RC_at5 RC_set5 zeroF RC_ext RC_spl RC_one offv_ptr one_lad zero_lad allOne_nil allOne_cons Value.oneCell' zero_rc zero_rc2
attribute [local go_sem ↓] loadF storeF loadA storeA loadM storeM
def iof : Value → Int | .int _ a => a | _ => 0
def bof : Value → Bool | .bool a => a | _ => false
def vof (v : Value) (i : Nat) : Value := (aggOf v)[i]?.getD undef
def lf (v : Value) : Nat → Bool := fun i => bof (vof v i)
theorem iof_r {k : IntKind} {a : Int} : iof (.int k a) = a := rfl
theorem bof_r {a : Bool} : bof (.bool a) = a := rfl
theorem vof_0 {a b : Value} : vof (.agg #[a, b]) 0 = a := rfl
theorem vof_1 {a b : Value} : vof (.agg #[a, b]) 1 = b := rfl
set_option maxRecDepth 100000 in
theorem lf_L (f : Nat → Bool) : Lb (lf (.agg (Lb f))) = Lb f := by kernel_rfl
theorem RC_lf {m p0 p1 : Int} {o0 o1 sp : Bool} {f : Nat → Bool} : RC m p0 p1 o0 o1 sp (lf (.agg (Lb f))) = RC m p0 p1 o0 o1 sp f := by unfold RC; rw [lf_L]
set_option maxRecDepth 100000 in
theorem RC_fold {m p0 p1 : Int} {o0 o1 sp : Bool} {f : Nat → Bool} : Array.foldl (fun (cs : Array Value) (x : Value × Nat) => cs.setIfInBounds (6 + x.snd) x.fst) (RC m p0 p1 o0 o1 sp fun _ => false) (Lb f).zipIdx 0 64 = RC m p0 p1 o0 o1 sp f := by kernel_rfl
theorem RC_ne {m p0 p1 : Int} {o0 o1 sp : Bool} {f : Nat → Bool} : (RC m p0 p1 o0 o1 sp f = #[]) = False := propext ⟨fun h => by (have := congrArg Array.size h; rw [RC_size] at this; cases this), False.elim⟩
section
variable {w : World} {ρ : Operand → Value} {x0 x1 x2 x3 x4 : Operand} {dst : Option Tmp} {t0 : TypeId} {pos : String} {af : Array Edge} {gd : Option (Nat × Bool)}
set_option maxRecDepth 100000 in
theorem buildF (h0 : ρ x0 = .int .i64 (iof (ρ x0))) (h1 : ρ x1 = .agg #[.int .i64 (iof (vof (ρ x1) 0)), .int .i64 (iof (vof (ρ x1) 1))]) (h2 : ρ x2 = .agg #[.bool (bof (vof (ρ x2) 0)), .bool (bof (vof (ρ x2) 1))]) (h3 : ρ x3 = .bool (bof (ρ x3))) (h4 : ρ x4 = .agg (Lb (lf (ρ x4)))) :
    (execOp ρ { dst := dst, op := .build 107 #[(0, x0), (1, x1), (2, x2), (3, x3), (4, x4)], type := t0, pos := pos, after := af, guard := gd }).run Try.prog w =
      .ok (.value (.agg (RC (iof (ρ x0)) (iof (vof (ρ x1) 0)) (iof (vof (ρ x1) 1)) (bof (vof (ρ x2) 0)) (bof (vof (ρ x2) 1)) (bof (ρ x3)) (lf (ρ x4))))) w := by
  generalize iof (ρ x0) = m at *
  generalize iof (vof (ρ x1) 0) = p0 at *
  generalize iof (vof (ρ x1) 1) = p1 at *
  generalize bof (vof (ρ x2) 0) = o0 at *
  generalize bof (vof (ρ x2) 1) = o1 at *
  generalize bof (ρ x3) = sp at *
  generalize lf (ρ x4) = f at *
  go_simp
  first | (rw [if_neg (by rw [RC_ne]; exact id), RC_fold]; rfl) | (rw [zero_rc2]; simp only [RC_set0, RC_set1, RC_set2, RC_set3, RC_set4, RC_set5]; exact RC_fold)
end
attribute [local go_sem ↓] buildF
attribute [local go_sem] iof_r bof_r vof_0 vof_1 lf_L RC_lf
theorem resT {w : World} {fn : Func} {p : Tmp} {cs : Array Value} {g : Nat} (h : fn.results = #[.cell p 107]) (tmps : Array Value) (hp : tmps.getD p undef = .pointer (some ⟨g, 0, none⟩)) (hg : Row w g cs) (hs : cs.size = 70) : (results fn tmps).run Try.prog w = .ok (.agg cs) w :=
  results_tmps h tmps w g cs (by first | exact hp | simpa using hp) hg Try.underlying107 rfl infoF hs
set_option maxRecDepth 100000 in
set_option maxHeartbeats 1000000 in
theorem Told_c (m p0 p1 : Int) (o0 o1 sp : Bool) (a b : Int) (ha : 0 ≤ a) (ha' : a ≤ 4294967295) (hb : 0 ≤ b) (hb' : b ≤ 4294967295) (w : World) : Calls Try.prog 56 #[.agg #[.int .i64 m, .int .i64 p0, .int .i64 p1, .bool o0, .bool o1, .bool sp, .int .u32 a, .int .u32 b]] w fun e w' => e = .returned (.agg (RC m p0 p1 o0 o1 sp (rb a b))) ∧ Below w.heap.size w w' := by
  have f5 := fun W : World => rOf_c a b ha ha' hb hb' W
  generalize hF : rb a b = f at *
  clear hF
  have F5 := Lib.hid f5
  clear f5 ha ha' hb hb'
  have hB0 : Below w.heap.size w ((w.alloc (.cells #[.int .i64 m, .int .i64 p0, .int .i64 p1, .bool o0, .bool o1, .bool sp, .int .u32 a, .int .u32 b] 35)).alloc (.cells (RC 0 0 0 false false false fun _ => false) 107)) := ((Below.refl _ w).alloc (Nat.le_refl _) _).alloc (by simp) _
  obtain ⟨R0, R0'⟩ : Row ((w.alloc (.cells #[.int .i64 m, .int .i64 p0, .int .i64 p1, .bool o0, .bool o1, .bool sp, .int .u32 a, .int .u32 b] 35)).alloc (.cells (RC 0 0 0 false false false fun _ => false) 107)) w.heap.size #[.int .i64 m, .int .i64 p0, .int .i64 p1, .bool o0, .bool o1, .bool sp, .int .u32 a, .int .u32 b] := Row.of ((BoxN.new w 35 #[.int .i64 m, .int .i64 p0, .int .i64 p1, .bool o0, .bool o1, .bool sp, .int .u32 a, .int .u32 b]).alloc _)
  obtain ⟨R1, R1'⟩ : Row ((w.alloc (.cells #[.int .i64 m, .int .i64 p0, .int .i64 p1, .bool o0, .bool o1, .bool sp, .int .u32 a, .int .u32 b] 35)).alloc (.cells (RC 0 0 0 false false false fun _ => false) 107)) (w.heap.size + 1) (RC 0 0 0 false false false fun _ => false) := (by (have this := BoxN.new (w.alloc (.cells #[.int .i64 m, .int .i64 p0, .int .i64 p1, .bool o0, .bool o1, .bool sp, .int .u32 a, .int .u32 b] 35)) 107 (RC 0 0 0 false false false fun _ => false); rw [World.size_alloc] at this; exact Row.of this))
  go_enter Try.func56, Try.ntmps56
  go_wp2_with fail
  generalize (w.alloc (.cells #[.int .i64 m, .int .i64 p0, .int .i64 p1, .bool o0, .bool o1, .bool sp, .int .u32 a, .int .u32 b] 35)).alloc (.cells (RC 0 0 0 false false false fun _ => false) 107) = W0 at *
  have R1s : (rowAt W0 (w.heap.size + 1)).size = 70 := by rw [R1']; exact RC_size
  clear R1'
  (first | go_region_held3 (fun w' => isRow w' w.heap.size ∧ rowAt w' w.heap.size = #[.int .i64 m, .int .i64 p0, .int .i64 p1, .bool o0, .bool o1, .bool sp, .int .u32 a, .int .u32 b] ∧ isRow w' (w.heap.size + 1) ∧ (rowAt w' (w.heap.size + 1)).size = 70 ∧ Below w.heap.size w w')
    (first | exact ⟨R0, R0', R1, R1s, below_drew0 hB0⟩ | (go_split_ands; exact ⟨rk1 (by assumption) hb, rk2 (by assumption) (by assumption) hb, rk1 (by assumption) hb, (congrArg Array.size (rk3 (by assumption) hb)).trans (by assumption), bk (by assumption) (Below.size (by assumption)) hb⟩) | (go_split_ands; refine ⟨?_, ?_, ?_, ?_, ?_⟩ <;> go_simp))
    ((go_at_call 78; ((with_reducible refine (F5.out _).mono ?_); rintro e w4 ⟨rfl, hb⟩))) | fail)
  go_split_ands
  go_wp2
  exact bodyPost_ret (resT rfl _ rfl (Row.setRow (isRow_setRow_eq.mp (by assumption))) RC_size) rfl ⟨rfl, by assumption⟩
end Go.Proofs.Ytkbaghblchlcnaa
namespace Go.Proofs.Ytkbaghblchlcnaa
open Go.RowKit
theorem push_bitsL (a b g p : Int) (i : Nat) (hi : i < 64) : rb (setA .or a g p) (setB .or b g p) i = if i = spot g p then true else rb a b i := by
  unfold setA setB rb spot
  rcases mod2 g with hg | hg <;> rcases Nat.mod_two_eq_zero_or_one i with h | h <;> simp only [hg, h, if_true, if_false, show ¬ ((1 : Int) = 0) by omega, show ¬ (1 = 0) by omega]
  · rw [tb_or_w _ _ _ (by omega), tb_two_pow]
    by_cases e : pl p = i / 2
    · rw [if_pos (by simp; omega), decide_eq_true e, Bool.or_true]
    · rw [if_neg (by simp; omega), decide_eq_false e, Bool.or_false]
  · rw [if_neg (by simp; omega)]
  · rw [if_neg (by simp; omega)]
  · rw [tb_or_w _ _ _ (by omega), tb_two_pow]
    by_cases e : pl p = i / 2
    · rw [if_pos (by simp; omega), decide_eq_true e, Bool.or_true]
    · rw [if_neg (by simp; omega), decide_eq_false e, Bool.or_false]
theorem Lb_push (a b g p : Int) : Lb (fun j => if j = spot g p then true else rb a b j) = Lb (rb (setA .or a g p) (setB .or b g p)) := Lb_ext fun i hi => (push_bitsL a b g p i hi).symm
end Go.Proofs.Ytkbaghblchlcnaa
