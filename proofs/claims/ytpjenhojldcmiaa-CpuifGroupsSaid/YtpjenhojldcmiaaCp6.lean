/- Contracts by hand: the document's interface: what comes through, what shows. -/
import Derived.Test.YtpjenhojldcmiaaSem14
namespace Go.Proofs.Ytpjenhojldcmiaa
open Go.RowKit Go.Shelf
attribute [local go_sem] Oper.semAt_some cell_row frozen_row isRow_setCell_eq rowAt_setCell_same rowAt_setCell_other isRow_alloc_eq rowAt_alloc rowAt_new isRow_setRow_eq rowAt_setRow_same rowAt_setRow_other isRow_drew rowAt_drew size_setRow_ Lb_size Lb_at blk_ptr aggOf_agg below_alloc_r below_setCell_r below_setRow_r below_drew_r le_add_r RC_size RC_get0 RC_at0 RC_set0 RC_get1 RC_at1 RC_set1 RC_get2 RC_at2 RC_set2 RC_get3 RC_at3 RC_set3 RC_get4 RC_at4 RC_set4 RC_get5 RC_at5 RC_set5 zeroF RC_ext RC_spl RC_one offv_ptr one_lad zero_lad allOne_nil allOne_cons Value.oneCell' zero_rc
attribute [local go_sem ↓] loadF storeF loadA storeA loadM storeM
set_option maxRecDepth 100000 in
set_option maxHeartbeats 1000000 in
theorem rbits_c (m p0 p1 : Int) (o0 o1 sp : Bool) (a b : Int) (g : Int) (w : World) : Calls Try.prog 47 #[.agg (RC m p0 p1 o0 o1 sp (rb a b)), .int .i64 g] w fun e w' => e = .returned (.int .i64 (maskP (g % 2) (ptP p0 p1 g))) ∧ Below w.heap.size w w' := by
  have h1 := and1 g
  have hB0 : Below w.heap.size w (w.alloc (.cells (RC m p0 p1 o0 o1 sp (rb a b)) 61)) := (Below.refl _ w).alloc (Nat.le_refl _) _
  generalize rb a b = f at *
  rcases mod2 g with h | h
  · rw [h] at h1 ⊢
    rw [show ptP p0 p1 g = p0 by unfold ptP; rw [h]; rfl]
    clear h
    have HM := Lib.hid (fun W : World => rMask_c 0 p0 W)
    generalize maskP 0 p0 = mk at *
    go_enter Try.func47, Try.ntmps47
    go_wp2_with (go_at_call 54; refine (HM.out _).mono ?_; rintro e w' ⟨rfl, rfl⟩)
    go_ret
    exact ⟨rfl, hB0⟩
  · rw [h] at h1 ⊢
    rw [show ptP p0 p1 g = p1 by unfold ptP; rw [h]; rfl]
    clear h
    have HM := Lib.hid (fun W : World => rMask_c 1 p1 W)
    generalize maskP 1 p1 = mk at *
    go_enter Try.func47, Try.ntmps47
    go_wp2_with (go_at_call 54; refine (HM.out _).mono ?_; rintro e w' ⟨rfl, rfl⟩)
    go_ret
    exact ⟨rfl, hB0⟩
set_option maxRecDepth 100000 in
set_option maxHeartbeats 4000000 in
theorem rMay_c (m p0 p1 : Int) (o0 o1 sp : Bool) (a b : Int) (id pr gr : Int) (is : Bool) (w : World) : Calls Try.prog 25 #[.agg (RC m p0 p1 o0 o1 sp (rb a b)), .agg #[.int .i64 id, .int .i64 pr, .int .i64 gr, .bool is]] w fun e w' => e = .returned (.bool (mayP m p0 p1 o0 o1 a b pr gr is)) ∧ Below w.heap.size w w' := by
  have h1 := and1 gr
  unfold mayP
  have hRUN := fun W : World => rRunning_c a b W
  have hMK := fun W : World => rbits_c m p0 p1 o0 o1 sp a b gr W
  have HT2 := Lib.hid (show decide (bits .and .i64 pr (maskP (gr % 2) (ptP p0 p1 gr)) < (top a b).1) = decide (bits .and .i64 pr (maskP (gr % 2) (ptP p0 p1 gr)) < (top a b).1) from rfl)
  generalize maskP (gr % 2) (ptP p0 p1 gr) = mk at *
  generalize (top a b).1 = r1 at *
  generalize (top a b).2 = r2 at *
  generalize rb a b = f at *
  have HRUN := Lib.hid hRUN
  have HMK := Lib.hid hMK
  clear hRUN hMK HT2
  have hB0 : Below w.heap.size w ((w.alloc (.cells (RC m p0 p1 o0 o1 sp f) 61)).alloc (.cells #[.int .i64 id, .int .i64 pr, .int .i64 gr, .bool is] 31)) := ((Below.refl _ w).alloc (Nat.le_refl _) _).alloc (by simp) _
  obtain ⟨R0, R0'⟩ : Row ((w.alloc (.cells (RC m p0 p1 o0 o1 sp f) 61)).alloc (.cells #[.int .i64 id, .int .i64 pr, .int .i64 gr, .bool is] 31)) w.heap.size (RC m p0 p1 o0 o1 sp f) := ⟨isRow_alloc isRow_new, (rowAt_alloc isRow_new).trans rowAt_new⟩
  obtain ⟨R1, R1'⟩ : Row ((w.alloc (.cells (RC m p0 p1 o0 o1 sp f) 61)).alloc (.cells #[.int .i64 id, .int .i64 pr, .int .i64 gr, .bool is] 31)) (w.heap.size + 1) #[.int .i64 id, .int .i64 pr, .int .i64 gr, .bool is] := by
    have := Row.new (w.alloc (.cells (RC m p0 p1 o0 o1 sp f) 61)) 31 #[.int .i64 id, .int .i64 pr, .int .i64 gr, .bool is]; rwa [World.size_alloc] at this
  have hz := hB0.size
  rcases mod2 gr with h | h
  all_goals
    rw [h] at h1
    simp only [onP, h, if_true, show ¬ ((1 : Int) = 0) by decide, if_false]
    clear h
  · cases is
    · go_enter Try.func25, Try.ntmps25
      go_wp2
      go_ret
      exact ⟨rfl, hB0⟩
    · cases o0
      · go_enter Try.func25, Try.ntmps25
        go_wp2
        go_ret
        exact ⟨rfl, hB0⟩
      · by_cases ht : pr < m
        · rw [show decide (pr < m) = true from decide_eq_true ht]
          go_enter Try.func25, Try.ntmps25
          go_wp2_with (go_at_call 45; refine (HRUN.out _).mono ?_; rintro e w1 ⟨rfl, hb1⟩; obtain ⟨Q0, Q0'⟩ := Row.step R0 R0' hb1; obtain ⟨Q1, Q1'⟩ := Row.step R1 R1' hb1; have hB1 := bk hB0 hz hb1)
          (first | go_region_held3 (fun w' => isRow w' w.heap.size ∧ rowAt w' w.heap.size = (RC m p0 p1 true o1 sp f) ∧ isRow w' (w.heap.size + 1) ∧ rowAt w' (w.heap.size + 1) = #[.int .i64 id, .int .i64 pr, .int .i64 gr, .bool true] ∧ Below w.heap.size w w') (first | exact ⟨Q0, Q0', Q1, Q1', below_drew0 hB1⟩ | (go_split_ands; exact ⟨rk1 (by assumption) hb, rk2 (by assumption) (by assumption) hb, rk1 (by assumption) hb, rk2 (by assumption) (by assumption) hb, bk (by assumption) (Below.size (by assumption)) hb⟩)) ((go_at_call 47; (with_reducible refine (HMK.out _).mono ?_); rintro e w4 ⟨rfl, hb⟩)) | fail)
          all_goals
            go_split_ands
            go_wp2
            go_ret
            exact ⟨rfl, by assumption⟩
        · rw [show decide (pr < m) = false from decide_eq_false ht]
          go_enter Try.func25, Try.ntmps25
          go_wp2
          go_ret
          exact ⟨rfl, hB0⟩
  · cases is
    · go_enter Try.func25, Try.ntmps25
      go_wp2
      go_ret
      exact ⟨rfl, hB0⟩
    · cases o1
      · go_enter Try.func25, Try.ntmps25
        go_wp2
        go_ret
        exact ⟨rfl, hB0⟩
      · by_cases ht : pr < m
        · rw [show decide (pr < m) = true from decide_eq_true ht]
          go_enter Try.func25, Try.ntmps25
          go_wp2_with (go_at_call 45; refine (HRUN.out _).mono ?_; rintro e w1 ⟨rfl, hb1⟩; obtain ⟨Q0, Q0'⟩ := Row.step R0 R0' hb1; obtain ⟨Q1, Q1'⟩ := Row.step R1 R1' hb1; have hB1 := bk hB0 hz hb1)
          (first | go_region_held3 (fun w' => isRow w' w.heap.size ∧ rowAt w' w.heap.size = (RC m p0 p1 o0 true sp f) ∧ isRow w' (w.heap.size + 1) ∧ rowAt w' (w.heap.size + 1) = #[.int .i64 id, .int .i64 pr, .int .i64 gr, .bool true] ∧ Below w.heap.size w w') (first | exact ⟨Q0, Q0', Q1, Q1', below_drew0 hB1⟩ | (go_split_ands; exact ⟨rk1 (by assumption) hb, rk2 (by assumption) (by assumption) hb, rk1 (by assumption) hb, rk2 (by assumption) (by assumption) hb, bk (by assumption) (Below.size (by assumption)) hb⟩)) ((go_at_call 47; (with_reducible refine (HMK.out _).mono ?_); rintro e w4 ⟨rfl, hb⟩)) | fail)
          all_goals
            go_split_ands
            go_wp2
            go_ret
            exact ⟨rfl, by assumption⟩
        · rw [show decide (pr < m) = false from decide_eq_false ht]
          go_enter Try.func25, Try.ntmps25
          go_wp2
          go_ret
          exact ⟨rfl, hB0⟩
set_option maxRecDepth 100000 in
set_option maxHeartbeats 2000000 in
theorem rShows_c (m p0 p1 : Int) (o0 o1 sp : Bool) (a b : Int) (id pr gr : Int) (is : Bool) (g : Int) (w : World) : Calls Try.prog 26 #[.agg (RC m p0 p1 o0 o1 sp (rb a b)), .agg #[.int .i64 id, .int .i64 pr, .int .i64 gr, .bool is], .int .i64 g] w fun e w' => e = .returned (.int .i64 (showsP o0 o1 id gr is g)) ∧ Below w.heap.size w w' := by
  have h1 := and1 g
  generalize rb a b = f at *
  have hB0 : ∀ u v, Below w.heap.size w ((w.alloc (.cells u 61)).alloc (.cells v 31)) := fun u v => ((Below.refl _ w).alloc (Nat.le_refl _) _).alloc (by simp) _
  cases is
  · have HS := Lib.hid (show showsP o0 o1 id gr false g = 1023 by simp [showsP])
    go_enter Try.func26, Try.ntmps26
    go_wp2
    go_ret
    exact ⟨by rw [HS.out]; rfl, hB0 _ _⟩
  · by_cases hg : gr = g
    · subst hg
      rcases mod2 gr with h | h
      · rw [h] at h1
        cases o0
        · have HS := Lib.hid (show showsP false o1 id gr true gr = 1023 by simp [showsP, onP, h])
          clear h
          go_enter Try.func26, Try.ntmps26
          go_wp2
          go_ret
          exact ⟨by rw [HS.out]; rfl, hB0 _ _⟩
        · have HS := Lib.hid (show showsP true o1 id gr true gr = id by simp [showsP, onP, h])
          clear h
          go_enter Try.func26, Try.ntmps26
          go_wp2
          go_ret
          exact ⟨by rw [HS.out]; rfl, hB0 _ _⟩
      · rw [h] at h1
        cases o1
        · have HS := Lib.hid (show showsP o0 false id gr true gr = 1023 by simp [showsP, onP, h])
          clear h
          go_enter Try.func26, Try.ntmps26
          go_wp2
          go_ret
          exact ⟨by rw [HS.out]; rfl, hB0 _ _⟩
        · have HS := Lib.hid (show showsP o0 true id gr true gr = id by simp [showsP, onP, h])
          clear h
          go_enter Try.func26, Try.ntmps26
          go_wp2
          go_ret
          exact ⟨by rw [HS.out]; rfl, hB0 _ _⟩
    · have HS := Lib.hid (show showsP o0 o1 id gr true g = 1023 by simp [showsP, hg])
      have hg' : (gr != g) = true := by simp [bne, hg]
      clear hg
      go_enter Try.func26, Try.ntmps26
      go_wp2
      go_ret
      exact ⟨by rw [HS.out]; rfl, hB0 _ _⟩
theorem RReal_c (id : Int) (w : World) : Calls Try.prog 28 #[.int .i64 id] w fun e w' => e = .returned (.bool (realC id)) ∧ w = w' := by
  by_cases h1 : 0 ≤ id
  · by_cases h2 : id ≤ 1019
    · have HS := Lib.hid (show realC id = true from decide_eq_true (by omega))
      generalize realC id = tt at *
      go_enter Try.func28, Try.ntmps28
      go_wp2
      go_ret
      exact ⟨by rw [HS.out]; rfl, rfl⟩
    · by_cases h3 : 8192 ≤ id
      · by_cases h4 : id ≤ 16383
        · have HS := Lib.hid (show realC id = true from decide_eq_true (by omega))
          generalize realC id = tt at *
          go_enter Try.func28, Try.ntmps28
          go_wp2
          go_ret
          exact ⟨by rw [HS.out]; rfl, rfl⟩
        · have HS := Lib.hid (show realC id = false from decide_eq_false (by omega))
          generalize realC id = tt at *
          go_enter Try.func28, Try.ntmps28
          go_wp2
          go_ret
          exact ⟨by rw [HS.out]; rfl, rfl⟩
      · have HS := Lib.hid (show realC id = false from decide_eq_false (by omega))
        generalize realC id = tt at *
        go_enter Try.func28, Try.ntmps28
        go_wp2
        go_ret
        exact ⟨by rw [HS.out]; rfl, rfl⟩
  · have HS := Lib.hid (show realC id = false from decide_eq_false (by omega))
    have h3 : ¬ 8192 ≤ id := by omega
    generalize realC id = tt at *
    go_enter Try.func28, Try.ntmps28
    go_wp2
    go_ret
    exact ⟨by rw [HS.out]; rfl, rfl⟩
theorem one_c (x : Bool) (n : Int) (w : World) : Calls Try.prog 44 #[.bool x, .int .u64 n] w fun e w' => e = .returned (.int .u64 (if x then n else 0)) ∧ w = w' := by
  cases x
  · go_enter Try.func44, Try.ntmps44
    go_wp2
    go_ret
    exact ⟨rfl, rfl⟩
  · go_enter Try.func44, Try.ntmps44
    go_wp2
    go_ret
    exact ⟨rfl, rfl⟩
end Go.Proofs.Ytpjenhojldcmiaa
