/- Contracts by hand: the processor's interface, by value. -/
import Derived.Test.YtpjenhojldcmiaaCp1
import Derived.Deep.RegionHeld3
import Derived.Deep.QuietTactic
import Derived.BigQuiet
namespace Go.Proofs.Ytpjenhojldcmiaa
open Go.RowKit Go.Shelf
attribute [local go_sem] Oper.semAt_some cell_row frozen_row isRow_setCell_eq rowAt_setCell_same rowAt_setCell_other isRow_alloc_eq rowAt_alloc rowAt_new isRow_setRow_eq rowAt_setRow_same rowAt_setRow_other isRow_drew rowAt_drew size_setRow_ Lb_size Lb_at blk_ptr aggOf_agg below_alloc_r below_setCell_r below_setRow_r below_drew_r le_add_r
theorem bs {w w' : World} {P : Prop} (h : P ∧ w = w') : P ∧ Below w.heap.size w w' := ⟨h.1, h.2 ▸ Below.refl _ _⟩
def ptP (p0 p1 g : Int) : Int := if g % 2 = 0 then p0 else p1
def onP (o0 o1 : Bool) (g : Int) : Bool := if g % 2 = 0 then o0 else o1
set_option maxRecDepth 100000 in
set_option maxHeartbeats 1000000 in
theorem ifmask_c (m p0 p1 : Int) (o0 o1 sp : Bool) (a b : Int) (g : Int) (w : World) : Calls Try.prog 32 #[.agg #[.int .i64 m, .int .i64 p0, .int .i64 p1, .bool o0, .bool o1, .bool sp, .int .u32 a, .int .u32 b], .int .i64 g] w fun e w' => e = .returned (.int .i64 (maskP (g % 2) (ptP p0 p1 g))) ∧ Below w.heap.size w w' := by
  have h1 := and1 g
  have hB0 : Below w.heap.size w (w.alloc (.cells #[.int .i64 m, .int .i64 p0, .int .i64 p1, .bool o0, .bool o1, .bool sp, .int .u32 a, .int .u32 b] 29)) := (Below.refl _ w).alloc (Nat.le_refl _) _
  rcases mod2 g with h | h
  · rw [h] at h1 ⊢
    rw [show ptP p0 p1 g = p0 by unfold ptP; rw [h]; rfl]
    clear h
    have HM := Lib.hid (fun W : World => Mask_c 0 p0 W)
    generalize maskP 0 p0 = mk at *
    go_enter Try.func32, Try.ntmps32
    go_wp2_with (go_at_call 11; refine (HM.out _).mono ?_; rintro e w' ⟨rfl, rfl⟩)
    go_ret
    exact ⟨rfl, hB0⟩
  · rw [h] at h1 ⊢
    rw [show ptP p0 p1 g = p1 by unfold ptP; rw [h]; rfl]
    clear h
    have HM := Lib.hid (fun W : World => Mask_c 1 p1 W)
    generalize maskP 1 p1 = mk at *
    go_enter Try.func32, Try.ntmps32
    go_wp2_with (go_at_call 11; refine (HM.out _).mono ?_; rintro e w' ⟨rfl, rfl⟩)
    go_ret
    exact ⟨rfl, hB0⟩
set_option maxRecDepth 100000 in
set_option maxHeartbeats 1000000 in
theorem ifrun_c (m p0 p1 : Int) (o0 o1 sp : Bool) (a b : Int) (w : World) : Calls Try.prog 12 #[.agg #[.int .i64 m, .int .i64 p0, .int .i64 p1, .bool o0, .bool o1, .bool sp, .int .u32 a, .int .u32 b]] w fun e w' => e = .returned (.tuple #[.int .i64 (top a b).1, .int .i64 (top a b).2]) ∧ Below w.heap.size w w' := by
  have hB0 : Below w.heap.size w (w.alloc (.cells #[.int .i64 m, .int .i64 p0, .int .i64 p1, .bool o0, .bool o1, .bool sp, .int .u32 a, .int .u32 b] 29)) := (Below.refl _ w).alloc (Nat.le_refl _) _
  have HR := Lib.hid (fun W : World => Running_c a b W)
  generalize (top a b).1 = r1 at *
  generalize (top a b).2 = r2 at *
  go_enter Try.func12, Try.ntmps12
  go_wp2_with (go_at_call 33; refine (HR.out _).mono ?_; rintro e w1 ⟨rfl, hb⟩)
  go_ret2
  exact ⟨rfl, bk hB0 hB0.size hb⟩
/-- does an interrupt come through? -/
def mayP (m p0 p1 : Int) (o0 o1 : Bool) (a b pr gr : Int) (is : Bool) : Bool := is && onP o0 o1 gr && decide (pr < m) && decide (bits .and .i64 pr (maskP (gr % 2) (ptP p0 p1 gr)) < (top a b).1)
set_option maxRecDepth 100000 in
set_option maxHeartbeats 4000000 in
theorem May_c (m p0 p1 : Int) (o0 o1 sp : Bool) (a b : Int) (id pr gr : Int) (is : Bool) (w : World) : Calls Try.prog 13 #[.agg #[.int .i64 m, .int .i64 p0, .int .i64 p1, .bool o0, .bool o1, .bool sp, .int .u32 a, .int .u32 b], .agg #[.int .i64 id, .int .i64 pr, .int .i64 gr, .bool is]] w fun e w' => e = .returned (.bool (mayP m p0 p1 o0 o1 a b pr gr is)) ∧ Below w.heap.size w w' := by
  have h1 := and1 gr
  unfold mayP
  have hRUN := fun W : World => ifrun_c m p0 p1 o0 o1 sp a b W
  have hMK := fun W : World => ifmask_c m p0 p1 o0 o1 sp a b gr W
  have hPS := fun W : World => (Passes_c pr m W).mono fun e w' h => bs h
  have hPQ := fun W : World => (Passes_c pr m W).mono fun e w' (h : e = .returned (.bool (decide (pr < m))) ∧ W = w') => (⟨h.1, h.2.symm⟩ : e = .returned (.bool (decide (pr < m))) ∧ w' = W)
  have hPR := fun W : World => (Preempts_c pr (top a b).1 (maskP (gr % 2) (ptP p0 p1 gr)) W).mono fun e w' h => bs h
  generalize decide (bits .and .i64 pr (maskP (gr % 2) (ptP p0 p1 gr)) < (top a b).1) = t2 at *
  generalize maskP (gr % 2) (ptP p0 p1 gr) = mk at *
  generalize decide (pr < m) = t1 at *
  generalize (top a b).1 = r1 at *
  generalize (top a b).2 = r2 at *
  have HRUN := Lib.hid hRUN
  have HMK := Lib.hid hMK
  have HPS := Lib.hid hPS
  have HPQ := Lib.hid hPQ
  have HPR := Lib.hid hPR
  clear hRUN hMK hPS hPR hPQ
  have hB0 : Below w.heap.size w ((w.alloc (.cells #[.int .i64 m, .int .i64 p0, .int .i64 p1, .bool o0, .bool o1, .bool sp, .int .u32 a, .int .u32 b] 29)).alloc (.cells #[.int .i64 id, .int .i64 pr, .int .i64 gr, .bool is] 31)) := ((Below.refl _ w).alloc (Nat.le_refl _) _).alloc (by simp) _
  obtain ⟨R0, R0'⟩ : Row ((w.alloc (.cells #[.int .i64 m, .int .i64 p0, .int .i64 p1, .bool o0, .bool o1, .bool sp, .int .u32 a, .int .u32 b] 29)).alloc (.cells #[.int .i64 id, .int .i64 pr, .int .i64 gr, .bool is] 31)) w.heap.size #[.int .i64 m, .int .i64 p0, .int .i64 p1, .bool o0, .bool o1, .bool sp, .int .u32 a, .int .u32 b] := ⟨isRow_alloc isRow_new, (rowAt_alloc isRow_new).trans rowAt_new⟩
  obtain ⟨R1, R1'⟩ : Row ((w.alloc (.cells #[.int .i64 m, .int .i64 p0, .int .i64 p1, .bool o0, .bool o1, .bool sp, .int .u32 a, .int .u32 b] 29)).alloc (.cells #[.int .i64 id, .int .i64 pr, .int .i64 gr, .bool is] 31)) (w.heap.size + 1) #[.int .i64 id, .int .i64 pr, .int .i64 gr, .bool is] := by
    have := Row.new (w.alloc (.cells #[.int .i64 m, .int .i64 p0, .int .i64 p1, .bool o0, .bool o1, .bool sp, .int .u32 a, .int .u32 b] 29)) 31 #[.int .i64 id, .int .i64 pr, .int .i64 gr, .bool is]; rwa [World.size_alloc] at this
  have hz := hB0.size
  rcases mod2 gr with h | h
  all_goals
    rw [h] at h1
    simp only [onP, h, if_true, show ¬ ((1 : Int) = 0) by decide, if_false]
    clear h
  · cases is
    · go_enter Try.func13, Try.ntmps13
      go_wp2_with (go_at_call 12; refine (HRUN.out _).mono ?_; rintro e w1 ⟨rfl, hb1⟩; obtain ⟨Q0, Q0'⟩ := Row.step R0 R0' hb1; obtain ⟨Q1, Q1'⟩ := Row.step R1 R1' hb1; have hB1 := bk hB0 hz hb1)
      clear hz hb1
      go_quiet ((go_at_call 34; exact Calls.quiet_of_same (HPQ.out _)))
      all_goals
        go_wp2
        go_ret
        exact ⟨rfl, below_drawn hB1 _⟩
    · cases o0
      · go_enter Try.func13, Try.ntmps13
        go_wp2_with (go_at_call 12; refine (HRUN.out _).mono ?_; rintro e w1 ⟨rfl, hb1⟩; obtain ⟨Q0, Q0'⟩ := Row.step R0 R0' hb1; obtain ⟨Q1, Q1'⟩ := Row.step R1 R1' hb1; have hB1 := bk hB0 hz hb1)
        clear hz hb1
        go_quiet ((go_at_call 34; exact Calls.quiet_of_same (HPQ.out _)))
        all_goals
          go_wp2
          go_ret
          exact ⟨rfl, below_drawn hB1 _⟩
      · cases t1
        · go_enter Try.func13, Try.ntmps13
          go_wp2_with (go_at_call 12; refine (HRUN.out _).mono ?_; rintro e w1 ⟨rfl, hb1⟩; obtain ⟨Q0, Q0'⟩ := Row.step R0 R0' hb1; obtain ⟨Q1, Q1'⟩ := Row.step R1 R1' hb1; have hB1 := bk hB0 hz hb1)
          clear hz hb1
          go_quiet ((go_at_call 34; exact Calls.quiet_of_same (HPQ.out _)))
          all_goals
            go_wp2
            go_ret
            exact ⟨rfl, below_drawn hB1 _⟩
        · go_enter Try.func13, Try.ntmps13
          go_wp2_with (go_at_call 12; refine (HRUN.out _).mono ?_; rintro e w1 ⟨rfl, hb1⟩; obtain ⟨Q0, Q0'⟩ := Row.step R0 R0' hb1; obtain ⟨Q1, Q1'⟩ := Row.step R1 R1' hb1; have hB1 := bk hB0 hz hb1)
          (first | go_region_held3 (fun w' => isRow w' w.heap.size ∧ rowAt w' w.heap.size = #[.int .i64 m, .int .i64 p0, .int .i64 p1, .bool true, .bool o1, .bool sp, .int .u32 a, .int .u32 b] ∧ isRow w' (w.heap.size + 1) ∧ rowAt w' (w.heap.size + 1) = #[.int .i64 id, .int .i64 pr, .int .i64 gr, .bool true] ∧ Below w.heap.size w w') (first | exact ⟨Q0, Q0', Q1, Q1', below_drew0 hB1⟩ | (go_split_ands; exact ⟨rk1 (by assumption) hb, rk2 (by assumption) (by assumption) hb, rk1 (by assumption) hb, rk2 (by assumption) (by assumption) hb, bk (by assumption) (Below.size (by assumption)) hb⟩)) (first | (go_at_call 34; (with_reducible refine (HPS.out _).mono ?_); rintro e w4 ⟨rfl, hb⟩) | (go_at_call 32; (with_reducible refine (HMK.out _).mono ?_); rintro e w4 ⟨rfl, hb⟩) | (go_at_call 35; (with_reducible refine (HPR.out _).mono ?_); rintro e w4 ⟨rfl, hb⟩)) | fail)
          all_goals
            go_split_ands
            go_wp2
            go_ret
            exact ⟨rfl, by assumption⟩
  · cases is
    · go_enter Try.func13, Try.ntmps13
      go_wp2_with (go_at_call 12; refine (HRUN.out _).mono ?_; rintro e w1 ⟨rfl, hb1⟩; obtain ⟨Q0, Q0'⟩ := Row.step R0 R0' hb1; obtain ⟨Q1, Q1'⟩ := Row.step R1 R1' hb1; have hB1 := bk hB0 hz hb1)
      clear hz hb1
      go_quiet ((go_at_call 34; exact Calls.quiet_of_same (HPQ.out _)))
      all_goals
        go_wp2
        go_ret
        exact ⟨rfl, below_drawn hB1 _⟩
    · cases o1
      · go_enter Try.func13, Try.ntmps13
        go_wp2_with (go_at_call 12; refine (HRUN.out _).mono ?_; rintro e w1 ⟨rfl, hb1⟩; obtain ⟨Q0, Q0'⟩ := Row.step R0 R0' hb1; obtain ⟨Q1, Q1'⟩ := Row.step R1 R1' hb1; have hB1 := bk hB0 hz hb1)
        clear hz hb1
        go_quiet ((go_at_call 34; exact Calls.quiet_of_same (HPQ.out _)))
        all_goals
          go_wp2
          go_ret
          exact ⟨rfl, below_drawn hB1 _⟩
      · cases t1
        · go_enter Try.func13, Try.ntmps13
          go_wp2_with (go_at_call 12; refine (HRUN.out _).mono ?_; rintro e w1 ⟨rfl, hb1⟩; obtain ⟨Q0, Q0'⟩ := Row.step R0 R0' hb1; obtain ⟨Q1, Q1'⟩ := Row.step R1 R1' hb1; have hB1 := bk hB0 hz hb1)
          clear hz hb1
          go_quiet ((go_at_call 34; exact Calls.quiet_of_same (HPQ.out _)))
          all_goals
            go_wp2
            go_ret
            exact ⟨rfl, below_drawn hB1 _⟩
        · go_enter Try.func13, Try.ntmps13
          go_wp2_with (go_at_call 12; refine (HRUN.out _).mono ?_; rintro e w1 ⟨rfl, hb1⟩; obtain ⟨Q0, Q0'⟩ := Row.step R0 R0' hb1; obtain ⟨Q1, Q1'⟩ := Row.step R1 R1' hb1; have hB1 := bk hB0 hz hb1)
          (first | go_region_held3 (fun w' => isRow w' w.heap.size ∧ rowAt w' w.heap.size = #[.int .i64 m, .int .i64 p0, .int .i64 p1, .bool o0, .bool true, .bool sp, .int .u32 a, .int .u32 b] ∧ isRow w' (w.heap.size + 1) ∧ rowAt w' (w.heap.size + 1) = #[.int .i64 id, .int .i64 pr, .int .i64 gr, .bool true] ∧ Below w.heap.size w w') (first | exact ⟨Q0, Q0', Q1, Q1', below_drew0 hB1⟩ | (go_split_ands; exact ⟨rk1 (by assumption) hb, rk2 (by assumption) (by assumption) hb, rk1 (by assumption) hb, rk2 (by assumption) (by assumption) hb, bk (by assumption) (Below.size (by assumption)) hb⟩)) (first | (go_at_call 34; (with_reducible refine (HPS.out _).mono ?_); rintro e w4 ⟨rfl, hb⟩) | (go_at_call 32; (with_reducible refine (HMK.out _).mono ?_); rintro e w4 ⟨rfl, hb⟩) | (go_at_call 35; (with_reducible refine (HPR.out _).mono ?_); rintro e w4 ⟨rfl, hb⟩)) | fail)
          all_goals
            go_split_ands
            go_wp2
            go_ret
            exact ⟨rfl, by assumption⟩
def showsP (o0 o1 : Bool) (id gr : Int) (is : Bool) (g : Int) : Int := if is = true ∧ gr = g ∧ onP o0 o1 g = true then id else 1023
set_option maxRecDepth 100000 in
set_option maxHeartbeats 2000000 in
theorem Shows_c (m p0 p1 : Int) (o0 o1 sp : Bool) (a b : Int) (id pr gr : Int) (is : Bool) (g : Int) (w : World) : Calls Try.prog 19 #[.agg #[.int .i64 m, .int .i64 p0, .int .i64 p1, .bool o0, .bool o1, .bool sp, .int .u32 a, .int .u32 b], .agg #[.int .i64 id, .int .i64 pr, .int .i64 gr, .bool is], .int .i64 g] w fun e w' => e = .returned (.int .i64 (showsP o0 o1 id gr is g)) ∧ Below w.heap.size w w' := by
  have h1 := and1 g
  have hB0 : Below w.heap.size w ((w.alloc (.cells #[.int .i64 m, .int .i64 p0, .int .i64 p1, .bool o0, .bool o1, .bool sp, .int .u32 a, .int .u32 b] 29)).alloc (.cells #[.int .i64 id, .int .i64 pr, .int .i64 gr, .bool is] 31)) := ((Below.refl _ w).alloc (Nat.le_refl _) _).alloc (by simp) _
  cases is
  · have HS := Lib.hid (show showsP o0 o1 id gr false g = 1023 by simp [showsP])
    go_enter Try.func19, Try.ntmps19
    go_wp2
    go_ret
    exact ⟨by rw [HS.out]; rfl, hB0⟩
  · by_cases hg : gr = g
    · subst hg
      rcases mod2 gr with h | h
      · rw [h] at h1
        cases o0
        · have HS := Lib.hid (show showsP false o1 id gr true gr = 1023 by simp [showsP, onP, h])
          clear h
          go_enter Try.func19, Try.ntmps19
          go_wp2
          go_ret
          exact ⟨by rw [HS.out]; rfl, hB0⟩
        · have HS := Lib.hid (show showsP true o1 id gr true gr = id by simp [showsP, onP, h])
          clear h
          go_enter Try.func19, Try.ntmps19
          go_wp2
          go_ret
          exact ⟨by rw [HS.out]; rfl, hB0⟩
      · rw [h] at h1
        cases o1
        · have HS := Lib.hid (show showsP o0 false id gr true gr = 1023 by simp [showsP, onP, h])
          clear h
          go_enter Try.func19, Try.ntmps19
          go_wp2
          go_ret
          exact ⟨by rw [HS.out]; rfl, hB0⟩
        · have HS := Lib.hid (show showsP o0 true id gr true gr = id by simp [showsP, onP, h])
          clear h
          go_enter Try.func19, Try.ntmps19
          go_wp2
          go_ret
          exact ⟨by rw [HS.out]; rfl, hB0⟩
    · have HS := Lib.hid (show showsP o0 o1 id gr true g = 1023 by simp [showsP, hg])
      have hg' : (gr == g) = false := by simpa using hg
      clear hg
      go_enter Try.func19, Try.ntmps19
      go_wp2
      go_ret
      exact ⟨by rw [HS.out]; rfl, hB0⟩
def realC (id : Int) : Bool := decide ((0 ≤ id ∧ id ≤ 1019) ∨ (8192 ≤ id ∧ id ≤ 16383))
theorem CReal_c (id : Int) (w : World) : Calls Try.prog 27 #[.int .i64 id] w fun e w' => e = .returned (.bool (realC id)) ∧ w = w' := by
  by_cases h1 : 0 ≤ id
  · by_cases h2 : id < 1020
    · have HS := Lib.hid (show realC id = true from decide_eq_true (by omega))
      generalize realC id = tt at *
      go_enter Try.func27, Try.ntmps27
      go_wp2
      go_ret
      exact ⟨by rw [HS.out]; rfl, rfl⟩
    · by_cases h3 : 8192 ≤ id
      · by_cases h4 : id < 16384
        · have HS := Lib.hid (show realC id = true from decide_eq_true (by omega))
          generalize realC id = tt at *
          go_enter Try.func27, Try.ntmps27
          go_wp2
          go_ret
          exact ⟨by rw [HS.out]; rfl, rfl⟩
        · have HS := Lib.hid (show realC id = false from decide_eq_false (by omega))
          generalize realC id = tt at *
          go_enter Try.func27, Try.ntmps27
          go_wp2
          go_ret
          exact ⟨by rw [HS.out]; rfl, rfl⟩
      · have HS := Lib.hid (show realC id = false from decide_eq_false (by omega))
        generalize realC id = tt at *
        go_enter Try.func27, Try.ntmps27
        go_wp2
        go_ret
        exact ⟨by rw [HS.out]; rfl, rfl⟩
  · have HS := Lib.hid (show realC id = false from decide_eq_false (by omega))
    have h3 : ¬ 8192 ≤ id := by omega
    generalize realC id = tt at *
    go_enter Try.func27, Try.ntmps27
    go_wp2
    go_ret
    exact ⟨by rw [HS.out]; rfl, rfl⟩
end Go.Proofs.Ytpjenhojldcmiaa
