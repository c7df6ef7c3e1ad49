/- Texts of this claim, put together: Cp8, Cp9. -/
import Derived.Test.YtkbaghblchlcnaaD15
import Derived.Test.YtkbaghblchlcnaaD18
namespace Go.Proofs.Ytkbaghblchlcnaa
open Go.RowKit Go.Shelf
attribute [local go_sem] Oper.semAt_some cell_row frozen_row isRow_setCell_eq rowAt_setCell_same rowAt_setCell_other isRow_alloc_eq rowAt_alloc rowAt_new isRow_setRow_eq rowAt_setRow_same rowAt_setRow_other isRow_drew rowAt_drew size_setRow_ Lb_size Lb_at blk_ptr aggOf_agg below_alloc_r below_setCell_r below_setRow_r below_drew_r le_add_r RC_size RC_get0 RC_at0 RC_set0 RC_get1 RC_at1 RC_set1 RC_get2 RC_at2 RC_set2 RC_get3 RC_at3 RC_set3 RC_get4 RC_at4 RC_set4 RC_get5 RC_at5 RC_set5 zeroF RC_ext RC_spl RC_one offv_ptr one_lad zero_lad allOne_nil allOne_cons Value.oneCell' zero_rc zero_rc2
attribute [local go_sem ↓] loadF storeF loadA storeA loadM storeM
set_option maxRecDepth 100000 in
set_option maxHeartbeats 4000000 in
theorem rDropI_c (m p0 p1 : Int) (o0 o1 sp : Bool) (a b : Int) (gp : Int) (w : World) : Calls Try.prog 96 #[.agg (RC m p0 p1 o0 o1 sp (rb a b)), .int .i64 gp] w fun e w' =>
    e = .returned (.tuple #[.agg (RC m p0 p1 o0 o1 sp (rb (if dropB' a b gp then dropA a b else a) (if dropB' a b gp then dropB a b else b))), .bool (dropB' a b gp)]) ∧ Below w.heap.size w w' := by
  have HR := Lib.hid (fun W : World => rRunning_c a b W)
  have HD := Lib.hid (fun W : World => rDrop_c a b W)
  have HQ := Lib.hid (show dropB' a b gp = (!((top a b).1 == 255) && (top a b).2 == gp) from rfl)
  generalize dropB' a b gp = dd at *
  generalize (top a b).1 = r1 at *
  generalize (top a b).2 = r2 at *
  generalize some? a b = z at *
  cases dd with
  | false =>
    simp only [Bool.false_eq_true, if_false]
    generalize rb a b = f at *
    have key : r1 = 255 ∨ (¬ r1 = 255 ∧ ¬ r2 = gp) := by
      have h := HQ.out
      by_cases h1 : r1 = 255
      · exact .inl h1
      · right; refine ⟨h1, fun h2 => ?_⟩; simp [h1, h2] at h
    clear HQ
    have hB0 : Below w.heap.size w ((w.alloc (.cells (RC m p0 p1 o0 o1 sp f) 107)).alloc (.cells (RC 0 0 0 false false false fun _ => false) 107)) := ((Below.refl _ w).alloc (Nat.le_refl _) _).alloc (by simp) _
    obtain ⟨R0, R0'⟩ : Row ((w.alloc (.cells (RC m p0 p1 o0 o1 sp f) 107)).alloc (.cells (RC 0 0 0 false false false fun _ => false) 107)) w.heap.size (RC m p0 p1 o0 o1 sp f) := Row.of ((BoxN.new w 107 (RC m p0 p1 o0 o1 sp f)).alloc _)
    obtain ⟨R1, R1'⟩ : Row ((w.alloc (.cells (RC m p0 p1 o0 o1 sp f) 107)).alloc (.cells (RC 0 0 0 false false false fun _ => false) 107)) (w.heap.size + 1) (RC 0 0 0 false false false fun _ => false) := by (have this := BoxN.new (w.alloc (.cells (RC m p0 p1 o0 o1 sp f) 107)) 107 (RC 0 0 0 false false false fun _ => false); rw [World.size_alloc] at this; exact Row.of this)
    have hz := hB0.size
    rcases key with h1 | ⟨h1, h2⟩
    · subst h1
      go_enter Try.func96, Try.ntmps96
      go_wp2_with (go_at_call 95; refine (HR.out _).mono ?_; rintro e w1 ⟨rfl, hb1⟩; obtain ⟨Q0, Q0'⟩ := Row.step R0 R0' hb1; obtain ⟨Q1, Q1'⟩ := Row.step R1 R1' hb1; have hB1 := bk hB0 hz hb1)
      exact bodyPost_ret (resF rfl _ rfl (Row.setRow Q1) RC_size rfl) rfl ⟨rfl, below_setRow hB1 (by omega) _⟩
    · have e1 : (r1 == 255) = false := by simpa using h1
      have e2 : (r2 != gp) = true := by simp [bne, h2]
      clear h1 h2
      go_enter Try.func96, Try.ntmps96
      go_wp2_with (go_at_call 95; refine (HR.out _).mono ?_; rintro e w1 ⟨rfl, hb1⟩; obtain ⟨Q0, Q0'⟩ := Row.step R0 R0' hb1; obtain ⟨Q1, Q1'⟩ := Row.step R1 R1' hb1; have hB1 := bk hB0 hz hb1)
      exact bodyPost_ret (resF rfl _ rfl (Row.setRow Q1) RC_size rfl) rfl ⟨rfl, below_setRow hB1 (by omega) _⟩
  | true =>
    simp only [if_true]
    generalize rb (dropA a b) (dropB a b) = f' at *
    generalize rb a b = f at *
    have key : ¬ r1 = 255 ∧ r2 = gp := by
      have h := HQ.out
      refine ⟨fun h1 => ?_, ?_⟩
      · simp [h1] at h
      · by_cases h2 : r2 = gp
        · exact h2
        · simp [h2] at h
    obtain ⟨h1, rfl⟩ := key
    have e1 : (r1 == 255) = false := by simpa using h1
    clear h1 HQ
    have hB0 : Below w.heap.size w ((w.alloc (.cells (RC m p0 p1 o0 o1 sp f) 107)).alloc (.cells (RC 0 0 0 false false false fun _ => false) 107)) := ((Below.refl _ w).alloc (Nat.le_refl _) _).alloc (by simp) _
    obtain ⟨R0, R0'⟩ : Row ((w.alloc (.cells (RC m p0 p1 o0 o1 sp f) 107)).alloc (.cells (RC 0 0 0 false false false fun _ => false) 107)) w.heap.size (RC m p0 p1 o0 o1 sp f) := Row.of ((BoxN.new w 107 (RC m p0 p1 o0 o1 sp f)).alloc _)
    obtain ⟨R1, R1'⟩ : Row ((w.alloc (.cells (RC m p0 p1 o0 o1 sp f) 107)).alloc (.cells (RC 0 0 0 false false false fun _ => false) 107)) (w.heap.size + 1) (RC 0 0 0 false false false fun _ => false) := by (have this := BoxN.new (w.alloc (.cells (RC m p0 p1 o0 o1 sp f) 107)) 107 (RC 0 0 0 false false false fun _ => false); rw [World.size_alloc] at this; exact Row.of this)
    have hz := hB0.size
    go_enter Try.func96, Try.ntmps96
    go_wp2_with (go_at_call 95; refine (HR.out _).mono ?_; rintro e w1 ⟨rfl, hb1⟩; obtain ⟨Q0, Q0'⟩ := Row.step R0 R0' hb1; obtain ⟨Q1, Q1'⟩ := Row.step R1 R1' hb1; have hB1 := bk hB0 hz hb1; have n0 : ¬ w.heap.size = w1.heap.size := (by have := Q0.lt; omega); have n1 : ¬ w.heap.size + 1 = w1.heap.size := (by have := Q1.lt; omega); have n1' : ¬ w1.heap.size = w.heap.size + 1 := (by have := Q1.lt; omega))
    refine (HD.out _).mono ?_
    rintro e w2 ⟨rfl, hb2⟩
    obtain ⟨X0, X0'⟩ : Row w2 w.heap.size (RC m p0 p1 o0 o1 sp f) := Row.step (by go_simp) (by go_simp) hb2
    obtain ⟨X1, X1'⟩ : Row w2 (w.heap.size + 1) (RC 0 0 0 false false false fun _ => false) := Row.step (by go_simp) (by go_simp) hb2
    obtain ⟨X2, X2'⟩ : Row w2 w1.heap.size (RC m p0 p1 o0 o1 sp f) := Row.step (by go_simp) (by go_simp) hb2
    have hB2 : Below w.heap.size w w2 := bk (below_setRow (hB1.alloc hB1.size _) hB1.size _) (by have := hB1.size; simp; omega) hb2
    have hz1 : w.heap.size ≤ w1.heap.size := hB1.size
    generalize w1.heap.size = g9 at *
    have n2 : ¬ w.heap.size + 1 = w2.heap.size := by have := X1.lt; omega
    have n3 : ¬ g9 = w2.heap.size := by have := X2.lt; omega
    have n4 : ¬ w2.heap.size = g9 := by have := X2.lt; omega
    clear Q0 Q0' Q1 Q1' R0 R0' R1 R1' hb1 hb2 hB0 hB1 hz
    go_wp2_with fail
    have hf : Row ((((w2.alloc (.cells (Lb fun _ => false) 105)).setRow w2.heap.size (Lb f')).setRow g9 (RC m p0 p1 o0 o1 sp f')).setRow (w.heap.size + 1) (RC m p0 p1 o0 o1 sp f')) (w.heap.size + 1) (RC m p0 p1 o0 o1 sp f') := Row.setRow (by go_simp)
    exact bodyPost_ret (resF rfl _ rfl hf RC_size rfl) rfl ⟨rfl, below_setRow (below_setRow (below_setRow (hB2.alloc hB2.size _) hB2.size _) (by omega) _) (by omega) _⟩
set_option maxRecDepth 100000 in
set_option maxHeartbeats 4000000 in
theorem rReadI_c (m p0 p1 : Int) (o0 o1 sp : Bool) (a b : Int) (r : Int) (w : World) : Calls Try.prog 86 #[.agg (RC m p0 p1 o0 o1 sp (rb a b)), .int .i64 r] w fun e w' => e = .returned (.tuple #[.int .u64 (rdN r m p0 p1 o0 o1 sp a b), .bool (rdOk r)]) ∧ Below w.heap.size w w' := by
  have hB0 : ∀ vs, Below w.heap.size w (w.alloc (.cells vs 107)) := fun vs => (Below.refl _ w).alloc (Nat.le_refl _) _
  have HR := Lib.hid (fun W : World => rRunning_c a b W)
  have HBT := Lib.hid (fun (x : Bool) (n : Int) (W : World) => one_c x n W)
  unfold rdN
  generalize (top a b).1 = r1 at *
  generalize (top a b).2 = r2 at *
  generalize rb a b = f at *
  by_cases h6 : r = 6
  · subst h6
    go_enter Try.func86, Try.ntmps86
    go_wp2_with (first | (go_at_call 94; refine (HBT.out _ _ _).mono ?_; rintro e w1 ⟨rfl, rfl⟩) | (go_at_call 95; refine (HR.out _).mono ?_; rintro e w1 ⟨rfl, hb⟩))
    go_ret2
    first | exact ⟨rfl, hB0 _⟩ | exact ⟨rfl, bk (hB0 _) (hB0 _).size hb⟩
  by_cases h7 : r = 7
  · subst h7
    go_enter Try.func86, Try.ntmps86
    go_wp2_with (first | (go_at_call 94; refine (HBT.out _ _ _).mono ?_; rintro e w1 ⟨rfl, rfl⟩) | (go_at_call 95; refine (HR.out _).mono ?_; rintro e w1 ⟨rfl, hb⟩))
    go_ret2
    first | exact ⟨rfl, hB0 _⟩ | exact ⟨rfl, bk (hB0 _) (hB0 _).size hb⟩
  by_cases h8 : r = 8
  · subst h8
    by_cases hp : p1 < 1
    · rw [if_pos hp]
      go_enter Try.func86, Try.ntmps86
      go_wp2_with (first | (go_at_call 94; refine (HBT.out _ _ _).mono ?_; rintro e w1 ⟨rfl, rfl⟩) | (go_at_call 95; refine (HR.out _).mono ?_; rintro e w1 ⟨rfl, hb⟩))
      go_ret2
      first | exact ⟨rfl, hB0 _⟩ | exact ⟨rfl, bk (hB0 _) (hB0 _).size hb⟩
    · rw [if_neg hp]
      go_enter Try.func86, Try.ntmps86
      go_wp2_with (first | (go_at_call 94; refine (HBT.out _ _ _).mono ?_; rintro e w1 ⟨rfl, rfl⟩) | (go_at_call 95; refine (HR.out _).mono ?_; rintro e w1 ⟨rfl, hb⟩))
      go_ret2
      first | exact ⟨rfl, hB0 _⟩ | exact ⟨rfl, bk (hB0 _) (hB0 _).size hb⟩
  by_cases h9 : r = 9
  · subst h9
    cases sp
    · go_enter Try.func86, Try.ntmps86
      go_wp2_with (first | (go_at_call 94; refine (HBT.out _ _ _).mono ?_; rintro e w1 ⟨rfl, rfl⟩) | (go_at_call 95; refine (HR.out _).mono ?_; rintro e w1 ⟨rfl, hb⟩))
      go_ret2
      first | exact ⟨rfl, hB0 _⟩ | exact ⟨rfl, bk (hB0 _) (hB0 _).size hb⟩
    · go_enter Try.func86, Try.ntmps86
      go_wp2_with (first | (go_at_call 94; refine (HBT.out _ _ _).mono ?_; rintro e w1 ⟨rfl, rfl⟩) | (go_at_call 95; refine (HR.out _).mono ?_; rintro e w1 ⟨rfl, hb⟩))
      go_ret2
      first | exact ⟨rfl, hB0 _⟩ | exact ⟨rfl, bk (hB0 _) (hB0 _).size hb⟩
  by_cases h10 : r = 10
  · subst h10
    cases o0
    · go_enter Try.func86, Try.ntmps86
      go_wp2_with (first | (go_at_call 94; refine (HBT.out _ _ _).mono ?_; rintro e w1 ⟨rfl, rfl⟩) | (go_at_call 95; refine (HR.out _).mono ?_; rintro e w1 ⟨rfl, hb⟩))
      go_ret2
      first | exact ⟨rfl, hB0 _⟩ | exact ⟨rfl, bk (hB0 _) (hB0 _).size hb⟩
    · go_enter Try.func86, Try.ntmps86
      go_wp2_with (first | (go_at_call 94; refine (HBT.out _ _ _).mono ?_; rintro e w1 ⟨rfl, rfl⟩) | (go_at_call 95; refine (HR.out _).mono ?_; rintro e w1 ⟨rfl, hb⟩))
      go_ret2
      first | exact ⟨rfl, hB0 _⟩ | exact ⟨rfl, bk (hB0 _) (hB0 _).size hb⟩
  by_cases h11 : r = 11
  · subst h11
    cases o1
    · go_enter Try.func86, Try.ntmps86
      go_wp2_with (first | (go_at_call 94; refine (HBT.out _ _ _).mono ?_; rintro e w1 ⟨rfl, rfl⟩) | (go_at_call 95; refine (HR.out _).mono ?_; rintro e w1 ⟨rfl, hb⟩))
      go_ret2
      first | exact ⟨rfl, hB0 _⟩ | exact ⟨rfl, bk (hB0 _) (hB0 _).size hb⟩
    · go_enter Try.func86, Try.ntmps86
      go_wp2_with (first | (go_at_call 94; refine (HBT.out _ _ _).mono ?_; rintro e w1 ⟨rfl, rfl⟩) | (go_at_call 95; refine (HR.out _).mono ?_; rintro e w1 ⟨rfl, hb⟩))
      go_ret2
      first | exact ⟨rfl, hB0 _⟩ | exact ⟨rfl, bk (hB0 _) (hB0 _).size hb⟩
  by_cases h12 : r = 12
  · subst h12
    go_enter Try.func86, Try.ntmps86
    go_wp2_with (first | (go_at_call 94; refine (HBT.out _ _ _).mono ?_; rintro e w1 ⟨rfl, rfl⟩) | (go_at_call 95; refine (HR.out _).mono ?_; rintro e w1 ⟨rfl, hb⟩))
    go_ret2
    first | exact ⟨rfl, hB0 _⟩ | exact ⟨rfl, bk (hB0 _) (hB0 _).size hb⟩
  have e6 : (r == 6) = false := by simpa using h6
  have e7 : (r == 7) = false := by simpa using h7
  have e8 : (r == 8) = false := by simpa using h8
  have e9 : (r == 9) = false := by simpa using h9
  have e10 : (r == 10) = false := by simpa using h10
  have e11 : (r == 11) = false := by simpa using h11
  have e12 : (r == 12) = false := by simpa using h12
  have HE := Lib.hid (show rdOk r = false by unfold rdOk; rw [e6, e7, e8, e9, e10, e11, e12]; rfl)
  rw [if_neg h6, if_neg h7, if_neg h8, if_neg h9, if_neg h10, if_neg h11, if_neg h12, HE.out]
  clear h6 h7 h8 h9 h10 h11 h12
  go_enter Try.func86, Try.ntmps86
  go_wp2_with (first | (go_at_call 94; refine (HBT.out _ _ _).mono ?_; rintro e w1 ⟨rfl, rfl⟩) | (go_at_call 95; refine (HR.out _).mono ?_; rintro e w1 ⟨rfl, hb⟩))
  go_ret2
  first | exact ⟨rfl, hB0 _⟩ | exact ⟨rfl, bk (hB0 _) (hB0 _).size hb⟩
end Go.Proofs.Ytkbaghblchlcnaa
namespace Go.Proofs.Ytkbaghblchlcnaa
open Go.RowKit Go.Shelf
attribute [local go_sem] Oper.semAt_some cell_row frozen_row isRow_setCell_eq rowAt_setCell_same rowAt_setCell_other isRow_alloc_eq rowAt_alloc rowAt_new isRow_setRow_eq rowAt_setRow_same rowAt_setRow_other isRow_drew rowAt_drew size_setRow_ Lb_size Lb_at blk_ptr aggOf_agg below_alloc_r below_setCell_r below_setRow_r below_drew_r le_add_r RC_size RC_get0 RC_at0 RC_set0 RC_get1 RC_at1 RC_set1 RC_get2 RC_at2 RC_set2 RC_get3 RC_at3 RC_set3 RC_get4 RC_at4 RC_set4 RC_get5 RC_at5 RC_set5 zeroF RC_ext RC_spl RC_one offv_ptr one_lad zero_lad allOne_nil allOne_cons Value.oneCell' zero_rc zero_rc2
attribute [local go_sem ↓] loadF storeF loadA storeA loadM storeM
set_option maxRecDepth 100000 in
set_option maxHeartbeats 4000000 in
theorem rWriteI_c6 (m p0 p1 : Int) (o0 o1 sp : Bool) (a b : Int) (v : Int) (hv0 : 0 ≤ v) (hv1 : v ≤ 18446744073709551615) (w : World) : Calls Try.prog 89 #[.agg (RC m p0 p1 o0 o1 sp (rb a b)), .int .i64 6, .int .u64 v] w fun e w' =>
    e = .returned (.tuple #[.agg (RC (wM 6 v m) (wP0 6 v p0) (wP1 6 v p1) (wO0 6 v o0) (wO1 6 v o1) (wSp 6 v sp) (rb a b)), .bool (wOk 6)]) ∧ Below w.heap.size w w' := by
  generalize rb a b = f at *
  have hB : Below w.heap.size w ((((w.alloc (.cells (RC m p0 p1 o0 o1 sp f) 107)).alloc (.cells (RC 0 0 0 false false false fun _ => false) 107)).alloc (.cells (RC 0 0 0 false false false fun _ => false) 107)).setRow (w.heap.size + 2) (RC m p0 p1 o0 o1 sp f)) := below_setRow ((((Below.refl _ w).alloc (Nat.le_refl _) _).alloc (by simp) _).alloc (by simp; omega) _) (by omega) _
  obtain ⟨R0, R0'⟩ : Row (((w.alloc (.cells (RC m p0 p1 o0 o1 sp f) 107)).alloc (.cells (RC 0 0 0 false false false fun _ => false) 107)).alloc (.cells (RC 0 0 0 false false false fun _ => false) 107)) w.heap.size (RC m p0 p1 o0 o1 sp f) := Row.of (((BoxN.new w 107 (RC m p0 p1 o0 o1 sp f)).alloc _).alloc _)
  obtain ⟨R1, R1'⟩ : Row (((w.alloc (.cells (RC m p0 p1 o0 o1 sp f) 107)).alloc (.cells (RC 0 0 0 false false false fun _ => false) 107)).alloc (.cells (RC 0 0 0 false false false fun _ => false) 107)) (w.heap.size + 1) (RC 0 0 0 false false false fun _ => false) := (by (have this := (BoxN.new (w.alloc (.cells (RC m p0 p1 o0 o1 sp f) 107)) 107 (RC 0 0 0 false false false fun _ => false)).alloc (.cells (RC 0 0 0 false false false fun _ => false) 107)); rw [World.size_alloc] at this; exact Row.of this)
  obtain ⟨R2, R2'⟩ : Row (((w.alloc (.cells (RC m p0 p1 o0 o1 sp f) 107)).alloc (.cells (RC 0 0 0 false false false fun _ => false) 107)).alloc (.cells (RC 0 0 0 false false false fun _ => false) 107)) (w.heap.size + 2) (RC 0 0 0 false false false fun _ => false) := (by (have this := BoxN.new ((w.alloc (.cells (RC m p0 p1 o0 o1 sp f) 107)).alloc (.cells (RC 0 0 0 false false false fun _ => false) 107)) 107 (RC 0 0 0 false false false fun _ => false)); rw [World.size_alloc, World.size_alloc] at this; exact Row.of this)
  have n02 : ¬ w.heap.size = w.heap.size + 2 := by omega
  have n12 : ¬ w.heap.size + 1 = w.heap.size + 2 := by omega
  have n21 : ¬ w.heap.size + 2 = w.heap.size + 1 := by omega
  have hRL := fun W : World => rReal_c (v % 256) W
  have b0 : 0 ≤ v % 256 := by omega
  have b1 : v % 256 ≤ 255 := by omega
  have b2 : 0 ≤ v % 8 := by omega
  have b3 : v % 8 ≤ 7 := by omega
  simp only [wM, wP0, wP1, wSp, wO0, wO1, if_true, show ¬ ((6 : Int) = 7) by decide, show ¬ ((6 : Int) = 8) by decide, show ¬ ((6 : Int) = 9) by decide, show ¬ ((6 : Int) = 10) by decide, show ¬ ((6 : Int) = 11) by decide, if_false]
  generalize realP (v % 256) = rl at *
  have HRL := Lib.hid hRL
  clear hRL
  go_enter Try.func89, Try.ntmps89
  go_wp2_with (go_at_call 98; refine (HRL.out _).mono ?_; rintro e w1 ⟨rfl, rfl⟩)
  exact bodyPost_ret (resF rfl _ rfl (Row.setRow (by go_simp)) RC_size rfl) rfl ⟨rfl, below_setRow (hB.setCell (p := ⟨w.heap.size + 2, _, none⟩) (by simp) _) (by omega) _⟩
set_option maxRecDepth 100000 in
set_option maxHeartbeats 4000000 in
theorem rWriteI_c7 (m p0 p1 : Int) (o0 o1 sp : Bool) (a b : Int) (v : Int) (hv0 : 0 ≤ v) (hv1 : v ≤ 18446744073709551615) (w : World) : Calls Try.prog 89 #[.agg (RC m p0 p1 o0 o1 sp (rb a b)), .int .i64 7, .int .u64 v] w fun e w' =>
    e = .returned (.tuple #[.agg (RC (wM 7 v m) (wP0 7 v p0) (wP1 7 v p1) (wO0 7 v o0) (wO1 7 v o1) (wSp 7 v sp) (rb a b)), .bool (wOk 7)]) ∧ Below w.heap.size w w' := by
  generalize rb a b = f at *
  have hB : Below w.heap.size w ((((w.alloc (.cells (RC m p0 p1 o0 o1 sp f) 107)).alloc (.cells (RC 0 0 0 false false false fun _ => false) 107)).alloc (.cells (RC 0 0 0 false false false fun _ => false) 107)).setRow (w.heap.size + 2) (RC m p0 p1 o0 o1 sp f)) := below_setRow ((((Below.refl _ w).alloc (Nat.le_refl _) _).alloc (by simp) _).alloc (by simp; omega) _) (by omega) _
  obtain ⟨R0, R0'⟩ : Row (((w.alloc (.cells (RC m p0 p1 o0 o1 sp f) 107)).alloc (.cells (RC 0 0 0 false false false fun _ => false) 107)).alloc (.cells (RC 0 0 0 false false false fun _ => false) 107)) w.heap.size (RC m p0 p1 o0 o1 sp f) := Row.of (((BoxN.new w 107 (RC m p0 p1 o0 o1 sp f)).alloc _).alloc _)
  obtain ⟨R1, R1'⟩ : Row (((w.alloc (.cells (RC m p0 p1 o0 o1 sp f) 107)).alloc (.cells (RC 0 0 0 false false false fun _ => false) 107)).alloc (.cells (RC 0 0 0 false false false fun _ => false) 107)) (w.heap.size + 1) (RC 0 0 0 false false false fun _ => false) := (by (have this := (BoxN.new (w.alloc (.cells (RC m p0 p1 o0 o1 sp f) 107)) 107 (RC 0 0 0 false false false fun _ => false)).alloc (.cells (RC 0 0 0 false false false fun _ => false) 107)); rw [World.size_alloc] at this; exact Row.of this)
  obtain ⟨R2, R2'⟩ : Row (((w.alloc (.cells (RC m p0 p1 o0 o1 sp f) 107)).alloc (.cells (RC 0 0 0 false false false fun _ => false) 107)).alloc (.cells (RC 0 0 0 false false false fun _ => false) 107)) (w.heap.size + 2) (RC 0 0 0 false false false fun _ => false) := (by (have this := BoxN.new ((w.alloc (.cells (RC m p0 p1 o0 o1 sp f) 107)).alloc (.cells (RC 0 0 0 false false false fun _ => false) 107)) 107 (RC 0 0 0 false false false fun _ => false)); rw [World.size_alloc, World.size_alloc] at this; exact Row.of this)
  have n02 : ¬ w.heap.size = w.heap.size + 2 := by omega
  have n12 : ¬ w.heap.size + 1 = w.heap.size + 2 := by omega
  have n21 : ¬ w.heap.size + 2 = w.heap.size + 1 := by omega
  have hRL := fun W : World => rReal_c (v % 256) W
  have b0 : 0 ≤ v % 256 := by omega
  have b1 : v % 256 ≤ 255 := by omega
  have b2 : 0 ≤ v % 8 := by omega
  have b3 : v % 8 ≤ 7 := by omega
  simp only [wM, wP0, wP1, wSp, wO0, wO1, if_true, show ¬ ((7 : Int) = 6) by decide, show ¬ ((7 : Int) = 8) by decide, show ¬ ((7 : Int) = 9) by decide, show ¬ ((7 : Int) = 10) by decide, show ¬ ((7 : Int) = 11) by decide, if_false]
  clear hRL
  go_enter Try.func89, Try.ntmps89
  go_wp2_with (go_at_call 98; refine (HRL.out _).mono ?_; rintro e w1 ⟨rfl, rfl⟩)
  exact bodyPost_ret (resF rfl _ rfl (Row.setRow (by go_simp)) RC_size rfl) rfl ⟨rfl, below_setRow (hB.setCell (p := ⟨w.heap.size + 2, _, none⟩) (by simp) _) (by omega) _⟩
set_option maxRecDepth 100000 in
set_option maxHeartbeats 4000000 in
theorem rWriteI_c9 (m p0 p1 : Int) (o0 o1 sp : Bool) (a b : Int) (v : Int) (hv0 : 0 ≤ v) (hv1 : v ≤ 18446744073709551615) (w : World) : Calls Try.prog 89 #[.agg (RC m p0 p1 o0 o1 sp (rb a b)), .int .i64 9, .int .u64 v] w fun e w' =>
    e = .returned (.tuple #[.agg (RC (wM 9 v m) (wP0 9 v p0) (wP1 9 v p1) (wO0 9 v o0) (wO1 9 v o1) (wSp 9 v sp) (rb a b)), .bool (wOk 9)]) ∧ Below w.heap.size w w' := by
  generalize rb a b = f at *
  have hB : Below w.heap.size w ((((w.alloc (.cells (RC m p0 p1 o0 o1 sp f) 107)).alloc (.cells (RC 0 0 0 false false false fun _ => false) 107)).alloc (.cells (RC 0 0 0 false false false fun _ => false) 107)).setRow (w.heap.size + 2) (RC m p0 p1 o0 o1 sp f)) := below_setRow ((((Below.refl _ w).alloc (Nat.le_refl _) _).alloc (by simp) _).alloc (by simp; omega) _) (by omega) _
  obtain ⟨R0, R0'⟩ : Row (((w.alloc (.cells (RC m p0 p1 o0 o1 sp f) 107)).alloc (.cells (RC 0 0 0 false false false fun _ => false) 107)).alloc (.cells (RC 0 0 0 false false false fun _ => false) 107)) w.heap.size (RC m p0 p1 o0 o1 sp f) := Row.of (((BoxN.new w 107 (RC m p0 p1 o0 o1 sp f)).alloc _).alloc _)
  obtain ⟨R1, R1'⟩ : Row (((w.alloc (.cells (RC m p0 p1 o0 o1 sp f) 107)).alloc (.cells (RC 0 0 0 false false false fun _ => false) 107)).alloc (.cells (RC 0 0 0 false false false fun _ => false) 107)) (w.heap.size + 1) (RC 0 0 0 false false false fun _ => false) := (by (have this := (BoxN.new (w.alloc (.cells (RC m p0 p1 o0 o1 sp f) 107)) 107 (RC 0 0 0 false false false fun _ => false)).alloc (.cells (RC 0 0 0 false false false fun _ => false) 107)); rw [World.size_alloc] at this; exact Row.of this)
  obtain ⟨R2, R2'⟩ : Row (((w.alloc (.cells (RC m p0 p1 o0 o1 sp f) 107)).alloc (.cells (RC 0 0 0 false false false fun _ => false) 107)).alloc (.cells (RC 0 0 0 false false false fun _ => false) 107)) (w.heap.size + 2) (RC 0 0 0 false false false fun _ => false) := (by (have this := BoxN.new ((w.alloc (.cells (RC m p0 p1 o0 o1 sp f) 107)).alloc (.cells (RC 0 0 0 false false false fun _ => false) 107)) 107 (RC 0 0 0 false false false fun _ => false)); rw [World.size_alloc, World.size_alloc] at this; exact Row.of this)
  have n02 : ¬ w.heap.size = w.heap.size + 2 := by omega
  have n12 : ¬ w.heap.size + 1 = w.heap.size + 2 := by omega
  have n21 : ¬ w.heap.size + 2 = w.heap.size + 1 := by omega
  have hRL := fun W : World => rReal_c (v % 256) W
  have b0 : 0 ≤ v % 256 := by omega
  have b1 : v % 256 ≤ 255 := by omega
  have b2 : 0 ≤ v % 8 := by omega
  have b3 : v % 8 ≤ 7 := by omega
  simp only [wM, wP0, wP1, wSp, wO0, wO1, if_true, show ¬ ((9 : Int) = 6) by decide, show ¬ ((9 : Int) = 7) by decide, show ¬ ((9 : Int) = 8) by decide, show ¬ ((9 : Int) = 10) by decide, show ¬ ((9 : Int) = 11) by decide, if_false]
  clear hRL
  go_enter Try.func89, Try.ntmps89
  go_wp2_with (go_at_call 98; refine (HRL.out _).mono ?_; rintro e w1 ⟨rfl, rfl⟩)
  exact bodyPost_ret (resF rfl _ rfl (Row.setRow (by go_simp)) RC_size rfl) rfl ⟨rfl, below_setRow (hB.setCell (p := ⟨w.heap.size + 2, _, none⟩) (by simp) _) (by omega) _⟩
set_option maxRecDepth 100000 in
set_option maxHeartbeats 4000000 in
theorem rWriteI_c10 (m p0 p1 : Int) (o0 o1 sp : Bool) (a b : Int) (v : Int) (hv0 : 0 ≤ v) (hv1 : v ≤ 18446744073709551615) (w : World) : Calls Try.prog 89 #[.agg (RC m p0 p1 o0 o1 sp (rb a b)), .int .i64 10, .int .u64 v] w fun e w' =>
    e = .returned (.tuple #[.agg (RC (wM 10 v m) (wP0 10 v p0) (wP1 10 v p1) (wO0 10 v o0) (wO1 10 v o1) (wSp 10 v sp) (rb a b)), .bool (wOk 10)]) ∧ Below w.heap.size w w' := by
  generalize rb a b = f at *
  have hB : Below w.heap.size w ((((w.alloc (.cells (RC m p0 p1 o0 o1 sp f) 107)).alloc (.cells (RC 0 0 0 false false false fun _ => false) 107)).alloc (.cells (RC 0 0 0 false false false fun _ => false) 107)).setRow (w.heap.size + 2) (RC m p0 p1 o0 o1 sp f)) := below_setRow ((((Below.refl _ w).alloc (Nat.le_refl _) _).alloc (by simp) _).alloc (by simp; omega) _) (by omega) _
  obtain ⟨R0, R0'⟩ : Row (((w.alloc (.cells (RC m p0 p1 o0 o1 sp f) 107)).alloc (.cells (RC 0 0 0 false false false fun _ => false) 107)).alloc (.cells (RC 0 0 0 false false false fun _ => false) 107)) w.heap.size (RC m p0 p1 o0 o1 sp f) := Row.of (((BoxN.new w 107 (RC m p0 p1 o0 o1 sp f)).alloc _).alloc _)
  obtain ⟨R1, R1'⟩ : Row (((w.alloc (.cells (RC m p0 p1 o0 o1 sp f) 107)).alloc (.cells (RC 0 0 0 false false false fun _ => false) 107)).alloc (.cells (RC 0 0 0 false false false fun _ => false) 107)) (w.heap.size + 1) (RC 0 0 0 false false false fun _ => false) := (by (have this := (BoxN.new (w.alloc (.cells (RC m p0 p1 o0 o1 sp f) 107)) 107 (RC 0 0 0 false false false fun _ => false)).alloc (.cells (RC 0 0 0 false false false fun _ => false) 107)); rw [World.size_alloc] at this; exact Row.of this)
  obtain ⟨R2, R2'⟩ : Row (((w.alloc (.cells (RC m p0 p1 o0 o1 sp f) 107)).alloc (.cells (RC 0 0 0 false false false fun _ => false) 107)).alloc (.cells (RC 0 0 0 false false false fun _ => false) 107)) (w.heap.size + 2) (RC 0 0 0 false false false fun _ => false) := (by (have this := BoxN.new ((w.alloc (.cells (RC m p0 p1 o0 o1 sp f) 107)).alloc (.cells (RC 0 0 0 false false false fun _ => false) 107)) 107 (RC 0 0 0 false false false fun _ => false)); rw [World.size_alloc, World.size_alloc] at this; exact Row.of this)
  have n02 : ¬ w.heap.size = w.heap.size + 2 := by omega
  have n12 : ¬ w.heap.size + 1 = w.heap.size + 2 := by omega
  have n21 : ¬ w.heap.size + 2 = w.heap.size + 1 := by omega
  have hRL := fun W : World => rReal_c (v % 256) W
  have b0 : 0 ≤ v % 256 := by omega
  have b1 : v % 256 ≤ 255 := by omega
  have b2 : 0 ≤ v % 8 := by omega
  have b3 : v % 8 ≤ 7 := by omega
  simp only [wM, wP0, wP1, wSp, wO0, wO1, if_true, show ¬ ((10 : Int) = 6) by decide, show ¬ ((10 : Int) = 7) by decide, show ¬ ((10 : Int) = 8) by decide, show ¬ ((10 : Int) = 9) by decide, show ¬ ((10 : Int) = 11) by decide, if_false]
  clear hRL
  go_enter Try.func89, Try.ntmps89
  go_wp2_with (go_at_call 98; refine (HRL.out _).mono ?_; rintro e w1 ⟨rfl, rfl⟩)
  exact bodyPost_ret (resF rfl _ rfl (Row.setRow (by go_simp)) RC_size rfl) rfl ⟨rfl, below_setRow (hB.setCell (p := ⟨w.heap.size + 2, _, none⟩) (by simp) _) (by omega) _⟩
set_option maxRecDepth 100000 in
set_option maxHeartbeats 4000000 in
theorem rWriteI_c11 (m p0 p1 : Int) (o0 o1 sp : Bool) (a b : Int) (v : Int) (hv0 : 0 ≤ v) (hv1 : v ≤ 18446744073709551615) (w : World) : Calls Try.prog 89 #[.agg (RC m p0 p1 o0 o1 sp (rb a b)), .int .i64 11, .int .u64 v] w fun e w' =>
    e = .returned (.tuple #[.agg (RC (wM 11 v m) (wP0 11 v p0) (wP1 11 v p1) (wO0 11 v o0) (wO1 11 v o1) (wSp 11 v sp) (rb a b)), .bool (wOk 11)]) ∧ Below w.heap.size w w' := by
  generalize rb a b = f at *
  have hB : Below w.heap.size w ((((w.alloc (.cells (RC m p0 p1 o0 o1 sp f) 107)).alloc (.cells (RC 0 0 0 false false false fun _ => false) 107)).alloc (.cells (RC 0 0 0 false false false fun _ => false) 107)).setRow (w.heap.size + 2) (RC m p0 p1 o0 o1 sp f)) := below_setRow ((((Below.refl _ w).alloc (Nat.le_refl _) _).alloc (by simp) _).alloc (by simp; omega) _) (by omega) _
  obtain ⟨R0, R0'⟩ : Row (((w.alloc (.cells (RC m p0 p1 o0 o1 sp f) 107)).alloc (.cells (RC 0 0 0 false false false fun _ => false) 107)).alloc (.cells (RC 0 0 0 false false false fun _ => false) 107)) w.heap.size (RC m p0 p1 o0 o1 sp f) := Row.of (((BoxN.new w 107 (RC m p0 p1 o0 o1 sp f)).alloc _).alloc _)
  obtain ⟨R1, R1'⟩ : Row (((w.alloc (.cells (RC m p0 p1 o0 o1 sp f) 107)).alloc (.cells (RC 0 0 0 false false false fun _ => false) 107)).alloc (.cells (RC 0 0 0 false false false fun _ => false) 107)) (w.heap.size + 1) (RC 0 0 0 false false false fun _ => false) := (by (have this := (BoxN.new (w.alloc (.cells (RC m p0 p1 o0 o1 sp f) 107)) 107 (RC 0 0 0 false false false fun _ => false)).alloc (.cells (RC 0 0 0 false false false fun _ => false) 107)); rw [World.size_alloc] at this; exact Row.of this)
  obtain ⟨R2, R2'⟩ : Row (((w.alloc (.cells (RC m p0 p1 o0 o1 sp f) 107)).alloc (.cells (RC 0 0 0 false false false fun _ => false) 107)).alloc (.cells (RC 0 0 0 false false false fun _ => false) 107)) (w.heap.size + 2) (RC 0 0 0 false false false fun _ => false) := (by (have this := BoxN.new ((w.alloc (.cells (RC m p0 p1 o0 o1 sp f) 107)).alloc (.cells (RC 0 0 0 false false false fun _ => false) 107)) 107 (RC 0 0 0 false false false fun _ => false)); rw [World.size_alloc, World.size_alloc] at this; exact Row.of this)
  have n02 : ¬ w.heap.size = w.heap.size + 2 := by omega
  have n12 : ¬ w.heap.size + 1 = w.heap.size + 2 := by omega
  have n21 : ¬ w.heap.size + 2 = w.heap.size + 1 := by omega
  have hRL := fun W : World => rReal_c (v % 256) W
  have b0 : 0 ≤ v % 256 := by omega
  have b1 : v % 256 ≤ 255 := by omega
  have b2 : 0 ≤ v % 8 := by omega
  have b3 : v % 8 ≤ 7 := by omega
  simp only [wM, wP0, wP1, wSp, wO0, wO1, if_true, show ¬ ((11 : Int) = 6) by decide, show ¬ ((11 : Int) = 7) by decide, show ¬ ((11 : Int) = 8) by decide, show ¬ ((11 : Int) = 9) by decide, show ¬ ((11 : Int) = 10) by decide, if_false]
  clear hRL
  go_enter Try.func89, Try.ntmps89
  go_wp2_with (go_at_call 98; refine (HRL.out _).mono ?_; rintro e w1 ⟨rfl, rfl⟩)
  exact bodyPost_ret (resF rfl _ rfl (Row.setRow (by go_simp)) RC_size rfl) rfl ⟨rfl, below_setRow (hB.setCell (p := ⟨w.heap.size + 2, _, none⟩) (by simp) _) (by omega) _⟩
set_option maxRecDepth 100000 in
set_option maxHeartbeats 4000000 in
theorem rWriteI_c80 (m p0 p1 : Int) (o0 o1 sp : Bool) (a b : Int) (v : Int) (hv0 : 0 ≤ v) (hv1 : v ≤ 18446744073709551615) (hz : ¬ v % 8 = 0) (w : World) : Calls Try.prog 89 #[.agg (RC m p0 p1 o0 o1 sp (rb a b)), .int .i64 8, .int .u64 v] w fun e w' =>
    e = .returned (.tuple #[.agg (RC (wM 8 v m) (wP0 8 v p0) (wP1 8 v p1) (wO0 8 v o0) (wO1 8 v o1) (wSp 8 v sp) (rb a b)), .bool (wOk 8)]) ∧ Below w.heap.size w w' := by
  generalize rb a b = f at *
  have hB : Below w.heap.size w ((((w.alloc (.cells (RC m p0 p1 o0 o1 sp f) 107)).alloc (.cells (RC 0 0 0 false false false fun _ => false) 107)).alloc (.cells (RC 0 0 0 false false false fun _ => false) 107)).setRow (w.heap.size + 2) (RC m p0 p1 o0 o1 sp f)) := below_setRow ((((Below.refl _ w).alloc (Nat.le_refl _) _).alloc (by simp) _).alloc (by simp; omega) _) (by omega) _
  obtain ⟨R0, R0'⟩ : Row (((w.alloc (.cells (RC m p0 p1 o0 o1 sp f) 107)).alloc (.cells (RC 0 0 0 false false false fun _ => false) 107)).alloc (.cells (RC 0 0 0 false false false fun _ => false) 107)) w.heap.size (RC m p0 p1 o0 o1 sp f) := Row.of (((BoxN.new w 107 (RC m p0 p1 o0 o1 sp f)).alloc _).alloc _)
  obtain ⟨R1, R1'⟩ : Row (((w.alloc (.cells (RC m p0 p1 o0 o1 sp f) 107)).alloc (.cells (RC 0 0 0 false false false fun _ => false) 107)).alloc (.cells (RC 0 0 0 false false false fun _ => false) 107)) (w.heap.size + 1) (RC 0 0 0 false false false fun _ => false) := (by (have this := (BoxN.new (w.alloc (.cells (RC m p0 p1 o0 o1 sp f) 107)) 107 (RC 0 0 0 false false false fun _ => false)).alloc (.cells (RC 0 0 0 false false false fun _ => false) 107)); rw [World.size_alloc] at this; exact Row.of this)
  obtain ⟨R2, R2'⟩ : Row (((w.alloc (.cells (RC m p0 p1 o0 o1 sp f) 107)).alloc (.cells (RC 0 0 0 false false false fun _ => false) 107)).alloc (.cells (RC 0 0 0 false false false fun _ => false) 107)) (w.heap.size + 2) (RC 0 0 0 false false false fun _ => false) := (by (have this := BoxN.new ((w.alloc (.cells (RC m p0 p1 o0 o1 sp f) 107)).alloc (.cells (RC 0 0 0 false false false fun _ => false) 107)) 107 (RC 0 0 0 false false false fun _ => false)); rw [World.size_alloc, World.size_alloc] at this; exact Row.of this)
  have n02 : ¬ w.heap.size = w.heap.size + 2 := by omega
  have n12 : ¬ w.heap.size + 1 = w.heap.size + 2 := by omega
  have n21 : ¬ w.heap.size + 2 = w.heap.size + 1 := by omega
  have hRL := fun W : World => rReal_c (v % 256) W
  have b0 : 0 ≤ v % 256 := by omega
  have b1 : v % 256 ≤ 255 := by omega
  have b2 : 0 ≤ v % 8 := by omega
  have b3 : v % 8 ≤ 7 := by omega
  simp only [wM, wP0, wP1, wSp, wO0, wO1, if_true, show ¬ ((8 : Int) = 6) by decide, show ¬ ((8 : Int) = 7) by decide, show ¬ ((8 : Int) = 9) by decide, show ¬ ((8 : Int) = 10) by decide, show ¬ ((8 : Int) = 11) by decide, if_false]
  clear hRL
  rw [if_neg hz]
  have hzz : (v % 8 == 0) = false := by simpa using hz
  clear hz
  go_enter Try.func89, Try.ntmps89
  go_wp2_with (go_at_call 98; refine (HRL.out _).mono ?_; rintro e w1 ⟨rfl, rfl⟩)
  exact bodyPost_ret (resF rfl _ rfl (Row.setRow (by go_simp)) RC_size rfl) rfl ⟨rfl, below_setRow (hB.setCell (p := ⟨w.heap.size + 2, _, none⟩) (by simp) _) (by omega) _⟩
set_option maxRecDepth 100000 in
set_option maxHeartbeats 4000000 in
theorem rWriteI_c81 (m p0 p1 : Int) (o0 o1 sp : Bool) (a b : Int) (v : Int) (hv0 : 0 ≤ v) (hv1 : v ≤ 18446744073709551615) (hz : v % 8 = 0) (w : World) : Calls Try.prog 89 #[.agg (RC m p0 p1 o0 o1 sp (rb a b)), .int .i64 8, .int .u64 v] w fun e w' =>
    e = .returned (.tuple #[.agg (RC (wM 8 v m) (wP0 8 v p0) (wP1 8 v p1) (wO0 8 v o0) (wO1 8 v o1) (wSp 8 v sp) (rb a b)), .bool (wOk 8)]) ∧ Below w.heap.size w w' := by
  generalize rb a b = f at *
  have hB : Below w.heap.size w ((((w.alloc (.cells (RC m p0 p1 o0 o1 sp f) 107)).alloc (.cells (RC 0 0 0 false false false fun _ => false) 107)).alloc (.cells (RC 0 0 0 false false false fun _ => false) 107)).setRow (w.heap.size + 2) (RC m p0 p1 o0 o1 sp f)) := below_setRow ((((Below.refl _ w).alloc (Nat.le_refl _) _).alloc (by simp) _).alloc (by simp; omega) _) (by omega) _
  obtain ⟨R0, R0'⟩ : Row (((w.alloc (.cells (RC m p0 p1 o0 o1 sp f) 107)).alloc (.cells (RC 0 0 0 false false false fun _ => false) 107)).alloc (.cells (RC 0 0 0 false false false fun _ => false) 107)) w.heap.size (RC m p0 p1 o0 o1 sp f) := Row.of (((BoxN.new w 107 (RC m p0 p1 o0 o1 sp f)).alloc _).alloc _)
  obtain ⟨R1, R1'⟩ : Row (((w.alloc (.cells (RC m p0 p1 o0 o1 sp f) 107)).alloc (.cells (RC 0 0 0 false false false fun _ => false) 107)).alloc (.cells (RC 0 0 0 false false false fun _ => false) 107)) (w.heap.size + 1) (RC 0 0 0 false false false fun _ => false) := (by (have this := (BoxN.new (w.alloc (.cells (RC m p0 p1 o0 o1 sp f) 107)) 107 (RC 0 0 0 false false false fun _ => false)).alloc (.cells (RC 0 0 0 false false false fun _ => false) 107)); rw [World.size_alloc] at this; exact Row.of this)
  obtain ⟨R2, R2'⟩ : Row (((w.alloc (.cells (RC m p0 p1 o0 o1 sp f) 107)).alloc (.cells (RC 0 0 0 false false false fun _ => false) 107)).alloc (.cells (RC 0 0 0 false false false fun _ => false) 107)) (w.heap.size + 2) (RC 0 0 0 false false false fun _ => false) := (by (have this := BoxN.new ((w.alloc (.cells (RC m p0 p1 o0 o1 sp f) 107)).alloc (.cells (RC 0 0 0 false false false fun _ => false) 107)) 107 (RC 0 0 0 false false false fun _ => false)); rw [World.size_alloc, World.size_alloc] at this; exact Row.of this)
  have n02 : ¬ w.heap.size = w.heap.size + 2 := by omega
  have n12 : ¬ w.heap.size + 1 = w.heap.size + 2 := by omega
  have n21 : ¬ w.heap.size + 2 = w.heap.size + 1 := by omega
  have hRL := fun W : World => rReal_c (v % 256) W
  have b0 : 0 ≤ v % 256 := by omega
  have b1 : v % 256 ≤ 255 := by omega
  have b2 : 0 ≤ v % 8 := by omega
  have b3 : v % 8 ≤ 7 := by omega
  simp only [wM, wP0, wP1, wSp, wO0, wO1, if_true, show ¬ ((8 : Int) = 6) by decide, show ¬ ((8 : Int) = 7) by decide, show ¬ ((8 : Int) = 9) by decide, show ¬ ((8 : Int) = 10) by decide, show ¬ ((8 : Int) = 11) by decide, if_false]
  clear hRL
  rw [if_pos hz]
  have hzz : (v % 8 == 0) = true := by simpa using hz
  clear hz
  go_enter Try.func89, Try.ntmps89
  go_wp2_with (go_at_call 98; refine (HRL.out _).mono ?_; rintro e w1 ⟨rfl, rfl⟩)
  exact bodyPost_ret (resF rfl _ rfl (Row.setRow (by go_simp)) RC_size rfl) rfl ⟨rfl, below_setRow ((hB.setCell (p := ⟨w.heap.size + 2, _, none⟩) (by simp) _).setCell (p := ⟨w.heap.size + 2, _, none⟩) (by simp) _) (by omega) _⟩
set_option maxRecDepth 100000 in
set_option maxHeartbeats 4000000 in
theorem rWriteI_cn (m p0 p1 : Int) (o0 o1 sp : Bool) (a b : Int) (r v : Int) (h6 : ¬ r = 6) (h7 : ¬ r = 7) (h8 : ¬ r = 8) (h9 : ¬ r = 9) (h10 : ¬ r = 10) (h11 : ¬ r = 11) (w : World) : Calls Try.prog 89 #[.agg (RC m p0 p1 o0 o1 sp (rb a b)), .int .i64 r, .int .u64 v] w fun e w' =>
    e = .returned (.tuple #[.agg (RC (wM r v m) (wP0 r v p0) (wP1 r v p1) (wO0 r v o0) (wO1 r v o1) (wSp r v sp) (rb a b)), .bool (wOk r)]) ∧ Below w.heap.size w w' := by
  generalize rb a b = f at *
  have hB : Below w.heap.size w ((((w.alloc (.cells (RC m p0 p1 o0 o1 sp f) 107)).alloc (.cells (RC 0 0 0 false false false fun _ => false) 107)).alloc (.cells (RC 0 0 0 false false false fun _ => false) 107)).setRow (w.heap.size + 2) (RC m p0 p1 o0 o1 sp f)) := below_setRow ((((Below.refl _ w).alloc (Nat.le_refl _) _).alloc (by simp) _).alloc (by simp; omega) _) (by omega) _
  obtain ⟨R0, R0'⟩ : Row (((w.alloc (.cells (RC m p0 p1 o0 o1 sp f) 107)).alloc (.cells (RC 0 0 0 false false false fun _ => false) 107)).alloc (.cells (RC 0 0 0 false false false fun _ => false) 107)) w.heap.size (RC m p0 p1 o0 o1 sp f) := Row.of (((BoxN.new w 107 (RC m p0 p1 o0 o1 sp f)).alloc _).alloc _)
  obtain ⟨R1, R1'⟩ : Row (((w.alloc (.cells (RC m p0 p1 o0 o1 sp f) 107)).alloc (.cells (RC 0 0 0 false false false fun _ => false) 107)).alloc (.cells (RC 0 0 0 false false false fun _ => false) 107)) (w.heap.size + 1) (RC 0 0 0 false false false fun _ => false) := (by (have this := (BoxN.new (w.alloc (.cells (RC m p0 p1 o0 o1 sp f) 107)) 107 (RC 0 0 0 false false false fun _ => false)).alloc (.cells (RC 0 0 0 false false false fun _ => false) 107)); rw [World.size_alloc] at this; exact Row.of this)
  obtain ⟨R2, R2'⟩ : Row (((w.alloc (.cells (RC m p0 p1 o0 o1 sp f) 107)).alloc (.cells (RC 0 0 0 false false false fun _ => false) 107)).alloc (.cells (RC 0 0 0 false false false fun _ => false) 107)) (w.heap.size + 2) (RC 0 0 0 false false false fun _ => false) := (by (have this := BoxN.new ((w.alloc (.cells (RC m p0 p1 o0 o1 sp f) 107)).alloc (.cells (RC 0 0 0 false false false fun _ => false) 107)) 107 (RC 0 0 0 false false false fun _ => false)); rw [World.size_alloc, World.size_alloc] at this; exact Row.of this)
  have n02 : ¬ w.heap.size = w.heap.size + 2 := by omega
  have n12 : ¬ w.heap.size + 1 = w.heap.size + 2 := by omega
  have n21 : ¬ w.heap.size + 2 = w.heap.size + 1 := by omega
  have hRL := fun W : World => rReal_c (v % 256) W
  have b0 : 0 ≤ v % 256 := by omega
  have b1 : v % 256 ≤ 255 := by omega
  have b2 : 0 ≤ v % 8 := by omega
  have b3 : v % 8 ≤ 7 := by omega
  clear hRL
  have e6 : (r == 6) = false := by simpa using h6
  have e7 : (r == 7) = false := by simpa using h7
  have e8 : (r == 8) = false := by simpa using h8
  have e9 : (r == 9) = false := by simpa using h9
  have e10 : (r == 10) = false := by simpa using h10
  have e11 : (r == 11) = false := by simpa using h11
  simp only [wM, wP0, wP1, wSp, wO0, wO1, if_neg h6, if_neg h7, if_neg h8, if_neg h9, if_neg h10, if_neg h11, wok_no h6 h7 h8 h9 h10 h11]
  clear h6 h7 h8 h9 h10 h11
  go_enter Try.func89, Try.ntmps89
  go_wp2_with (go_at_call 98; refine (HRL.out _).mono ?_; rintro e w1 ⟨rfl, rfl⟩)
  exact bodyPost_ret (resF rfl _ rfl (Row.setRow (by go_simp)) RC_size rfl) rfl ⟨rfl, below_setRow hB (by omega) _⟩
theorem rWriteI_c (m p0 p1 : Int) (o0 o1 sp : Bool) (a b : Int) (r v : Int) (hv0 : 0 ≤ v) (hv1 : v ≤ 18446744073709551615) (w : World) : Calls Try.prog 89 #[.agg (RC m p0 p1 o0 o1 sp (rb a b)), .int .i64 r, .int .u64 v] w fun e w' =>
    e = .returned (.tuple #[.agg (RC (wM r v m) (wP0 r v p0) (wP1 r v p1) (wO0 r v o0) (wO1 r v o1) (wSp r v sp) (rb a b)), .bool (wOk r)]) ∧ Below w.heap.size w w' := by
  by_cases h6 : r = 6
  · subst h6; exact rWriteI_c6 m p0 p1 o0 o1 sp a b v hv0 hv1 w
  by_cases h7 : r = 7
  · subst h7; exact rWriteI_c7 m p0 p1 o0 o1 sp a b v hv0 hv1 w
  by_cases h8 : r = 8
  · subst h8
    by_cases hz : v % 8 = 0
    · exact rWriteI_c81 m p0 p1 o0 o1 sp a b v hv0 hv1 hz w
    · exact rWriteI_c80 m p0 p1 o0 o1 sp a b v hv0 hv1 hz w
  by_cases h9 : r = 9
  · subst h9; exact rWriteI_c9 m p0 p1 o0 o1 sp a b v hv0 hv1 w
  by_cases h10 : r = 10
  · subst h10; exact rWriteI_c10 m p0 p1 o0 o1 sp a b v hv0 hv1 w
  by_cases h11 : r = 11
  · subst h11; exact rWriteI_c11 m p0 p1 o0 o1 sp a b v hv0 hv1 w
  exact rWriteI_cn m p0 p1 o0 o1 sp a b r v h6 h7 h8 h9 h10 h11 w
end Go.Proofs.Ytkbaghblchlcnaa
