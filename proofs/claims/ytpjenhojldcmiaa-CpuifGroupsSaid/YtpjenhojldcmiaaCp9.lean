/- Contracts by hand: the document's interface: what is written. -/
import Derived.Test.YtpjenhojldcmiaaCp8
namespace Go.Proofs.Ytpjenhojldcmiaa
open Go.RowKit Go.Shelf
attribute [local go_sem] Oper.semAt_some cell_row frozen_row isRow_setCell_eq rowAt_setCell_same rowAt_setCell_other isRow_alloc_eq rowAt_alloc rowAt_new isRow_setRow_eq rowAt_setRow_same rowAt_setRow_other isRow_drew rowAt_drew size_setRow_ Lb_size Lb_at blk_ptr aggOf_agg below_alloc_r below_setCell_r below_setRow_r below_drew_r le_add_r RC_size RC_get0 RC_at0 RC_set0 RC_get1 RC_at1 RC_set1 RC_get2 RC_at2 RC_set2 RC_get3 RC_at3 RC_set3 RC_get4 RC_at4 RC_set4 RC_get5 RC_at5 RC_set5 zeroF RC_ext RC_spl RC_one offv_ptr one_lad zero_lad allOne_nil allOne_cons Value.oneCell' zero_rc
attribute [local go_sem ↓] loadF storeF loadA storeA loadM storeM
theorem RWr {m m' p0 p0' p1 p1' : Int} {o0 o0' o1 o1' sp sp' k k' : Bool} {f : Nat → Bool} (h1 : m = m') (h2 : p0 = p0') (h3 : p1 = p1') (h4 : o0 = o0') (h5 : o1 = o1') (h6 : sp = sp') (h7 : k = k') :
    Ending.returned (.tuple #[.agg (RC m p0 p1 o0 o1 sp f), .bool k]) = .returned (.tuple #[.agg (RC m' p0' p1' o0' o1' sp' f), .bool k']) := by rw [h1, h2, h3, h4, h5, h6, h7]
set_option maxRecDepth 100000 in
set_option maxHeartbeats 4000000 in
theorem rWriteI_c6 (m p0 p1 : Int) (o0 o1 sp : Bool) (a b : Int) (v : Int) (hv0 : 0 ≤ v) (hv1 : v ≤ 18446744073709551615) (w : World) : Calls Try.prog 43 #[.agg (RC m p0 p1 o0 o1 sp (rb a b)), .int .i64 6, .int .u64 v] w fun e w' =>
    e = .returned (.tuple #[.agg (RC (wM 6 v m) (wP0 6 v p0) (wP1 6 v p1) (wO0 6 v o0) (wO1 6 v o1) (wSp 6 v sp) (rb a b)), .bool (wOk 6)]) ∧ Below w.heap.size w w' := by
  generalize rb a b = f at *
  have hB : Below w.heap.size w ((((w.alloc (.cells (RC m p0 p1 o0 o1 sp f) 61)).alloc (.cells (RC 0 0 0 false false false fun _ => false) 61)).alloc (.cells (RC 0 0 0 false false false fun _ => false) 61)).setRow (w.heap.size + 2) (RC m p0 p1 o0 o1 sp f)) := below_setRow ((((Below.refl _ w).alloc (Nat.le_refl _) _).alloc (by simp) _).alloc (by simp; omega) _) (by omega) _
  obtain ⟨R0, R0'⟩ : Row (((w.alloc (.cells (RC m p0 p1 o0 o1 sp f) 61)).alloc (.cells (RC 0 0 0 false false false fun _ => false) 61)).alloc (.cells (RC 0 0 0 false false false fun _ => false) 61)) w.heap.size (RC m p0 p1 o0 o1 sp f) := Row.of (((BoxN.new w 61 (RC m p0 p1 o0 o1 sp f)).alloc _).alloc _)
  obtain ⟨R1, R1'⟩ : Row (((w.alloc (.cells (RC m p0 p1 o0 o1 sp f) 61)).alloc (.cells (RC 0 0 0 false false false fun _ => false) 61)).alloc (.cells (RC 0 0 0 false false false fun _ => false) 61)) (w.heap.size + 1) (RC 0 0 0 false false false fun _ => false) := (by (have this := (BoxN.new (w.alloc (.cells (RC m p0 p1 o0 o1 sp f) 61)) 61 (RC 0 0 0 false false false fun _ => false)).alloc (.cells (RC 0 0 0 false false false fun _ => false) 61)); rw [World.size_alloc] at this; exact Row.of this)
  obtain ⟨R2, R2'⟩ : Row (((w.alloc (.cells (RC m p0 p1 o0 o1 sp f) 61)).alloc (.cells (RC 0 0 0 false false false fun _ => false) 61)).alloc (.cells (RC 0 0 0 false false false fun _ => false) 61)) (w.heap.size + 2) (RC 0 0 0 false false false fun _ => false) := (by (have this := BoxN.new ((w.alloc (.cells (RC m p0 p1 o0 o1 sp f) 61)).alloc (.cells (RC 0 0 0 false false false fun _ => false) 61)) 61 (RC 0 0 0 false false false fun _ => false)); rw [World.size_alloc, World.size_alloc] at this; exact Row.of this)
  have n02 : ¬ w.heap.size = w.heap.size + 2 := by omega
  have n12 : ¬ w.heap.size + 1 = w.heap.size + 2 := by omega
  have n21 : ¬ w.heap.size + 2 = w.heap.size + 1 := by omega
  have hRL := fun W : World => rReal_c (v % 256) W
  have b0 : 0 ≤ v % 256 := by omega
  have b1 : v % 256 ≤ 255 := by omega
  have b2 : 0 ≤ v % 8 := by omega
  have b3 : v % 8 ≤ 7 := by omega
  simp only [wM, wP0, wP1, wSp, wO0, wO1, if_true, show ¬ ((6 : Int) = 7) by decide, show ¬ ((6 : Int) = 8) by decide, show ¬ ((6 : Int) = 9) by decide, show ¬ ((6 : Int) = 10) by decide, show ¬ ((6 : Int) = 11) by decide, if_false]
  generalize realP (v % 256) = rl at *
  have HRL := Lib.hid hRL
  clear hRL
  go_enter Try.func43, Try.ntmps43
  go_wp2_with (go_at_call 52; refine (HRL.out _).mono ?_; rintro e w1 ⟨rfl, rfl⟩)
  exact bodyPost_ret (resF rfl _ rfl (Row.setRow (by go_simp)) RC_size rfl) rfl ⟨rfl, below_setRow (hB.setCell (p := ⟨w.heap.size + 2, _, none⟩) (by simp) _) (by omega) _⟩
set_option maxRecDepth 100000 in
set_option maxHeartbeats 4000000 in
theorem rWriteI_c7 (m p0 p1 : Int) (o0 o1 sp : Bool) (a b : Int) (v : Int) (hv0 : 0 ≤ v) (hv1 : v ≤ 18446744073709551615) (w : World) : Calls Try.prog 43 #[.agg (RC m p0 p1 o0 o1 sp (rb a b)), .int .i64 7, .int .u64 v] w fun e w' =>
    e = .returned (.tuple #[.agg (RC (wM 7 v m) (wP0 7 v p0) (wP1 7 v p1) (wO0 7 v o0) (wO1 7 v o1) (wSp 7 v sp) (rb a b)), .bool (wOk 7)]) ∧ Below w.heap.size w w' := by
  generalize rb a b = f at *
  have hB : Below w.heap.size w ((((w.alloc (.cells (RC m p0 p1 o0 o1 sp f) 61)).alloc (.cells (RC 0 0 0 false false false fun _ => false) 61)).alloc (.cells (RC 0 0 0 false false false fun _ => false) 61)).setRow (w.heap.size + 2) (RC m p0 p1 o0 o1 sp f)) := below_setRow ((((Below.refl _ w).alloc (Nat.le_refl _) _).alloc (by simp) _).alloc (by simp; omega) _) (by omega) _
  obtain ⟨R0, R0'⟩ : Row (((w.alloc (.cells (RC m p0 p1 o0 o1 sp f) 61)).alloc (.cells (RC 0 0 0 false false false fun _ => false) 61)).alloc (.cells (RC 0 0 0 false false false fun _ => false) 61)) w.heap.size (RC m p0 p1 o0 o1 sp f) := Row.of (((BoxN.new w 61 (RC m p0 p1 o0 o1 sp f)).alloc _).alloc _)
  obtain ⟨R1, R1'⟩ : Row (((w.alloc (.cells (RC m p0 p1 o0 o1 sp f) 61)).alloc (.cells (RC 0 0 0 false false false fun _ => false) 61)).alloc (.cells (RC 0 0 0 false false false fun _ => false) 61)) (w.heap.size + 1) (RC 0 0 0 false false false fun _ => false) := (by (have this := (BoxN.new (w.alloc (.cells (RC m p0 p1 o0 o1 sp f) 61)) 61 (RC 0 0 0 false false false fun _ => false)).alloc (.cells (RC 0 0 0 false false false fun _ => false) 61)); rw [World.size_alloc] at this; exact Row.of this)
  obtain ⟨R2, R2'⟩ : Row (((w.alloc (.cells (RC m p0 p1 o0 o1 sp f) 61)).alloc (.cells (RC 0 0 0 false false false fun _ => false) 61)).alloc (.cells (RC 0 0 0 false false false fun _ => false) 61)) (w.heap.size + 2) (RC 0 0 0 false false false fun _ => false) := (by (have this := BoxN.new ((w.alloc (.cells (RC m p0 p1 o0 o1 sp f) 61)).alloc (.cells (RC 0 0 0 false false false fun _ => false) 61)) 61 (RC 0 0 0 false false false fun _ => false)); rw [World.size_alloc, World.size_alloc] at this; exact Row.of this)
  have n02 : ¬ w.heap.size = w.heap.size + 2 := by omega
  have n12 : ¬ w.heap.size + 1 = w.heap.size + 2 := by omega
  have n21 : ¬ w.heap.size + 2 = w.heap.size + 1 := by omega
  have hRL := fun W : World => rReal_c (v % 256) W
  have b0 : 0 ≤ v % 256 := by omega
  have b1 : v % 256 ≤ 255 := by omega
  have b2 : 0 ≤ v % 8 := by omega
  have b3 : v % 8 ≤ 7 := by omega
  simp only [wM, wP0, wP1, wSp, wO0, wO1, if_true, show ¬ ((7 : Int) = 6) by decide, show ¬ ((7 : Int) = 8) by decide, show ¬ ((7 : Int) = 9) by decide, show ¬ ((7 : Int) = 10) by decide, show ¬ ((7 : Int) = 11) by decide, if_false]
  clear hRL
  go_enter Try.func43, Try.ntmps43
  go_wp2_with (go_at_call 52; refine (HRL.out _).mono ?_; rintro e w1 ⟨rfl, rfl⟩)
  exact bodyPost_ret (resF rfl _ rfl (Row.setRow (by go_simp)) RC_size rfl) rfl ⟨rfl, below_setRow (hB.setCell (p := ⟨w.heap.size + 2, _, none⟩) (by simp) _) (by omega) _⟩
set_option maxRecDepth 100000 in
set_option maxHeartbeats 4000000 in
theorem rWriteI_c9 (m p0 p1 : Int) (o0 o1 sp : Bool) (a b : Int) (v : Int) (hv0 : 0 ≤ v) (hv1 : v ≤ 18446744073709551615) (w : World) : Calls Try.prog 43 #[.agg (RC m p0 p1 o0 o1 sp (rb a b)), .int .i64 9, .int .u64 v] w fun e w' =>
    e = .returned (.tuple #[.agg (RC (wM 9 v m) (wP0 9 v p0) (wP1 9 v p1) (wO0 9 v o0) (wO1 9 v o1) (wSp 9 v sp) (rb a b)), .bool (wOk 9)]) ∧ Below w.heap.size w w' := by
  generalize rb a b = f at *
  have hB : Below w.heap.size w ((((w.alloc (.cells (RC m p0 p1 o0 o1 sp f) 61)).alloc (.cells (RC 0 0 0 false false false fun _ => false) 61)).alloc (.cells (RC 0 0 0 false false false fun _ => false) 61)).setRow (w.heap.size + 2) (RC m p0 p1 o0 o1 sp f)) := below_setRow ((((Below.refl _ w).alloc (Nat.le_refl _) _).alloc (by simp) _).alloc (by simp; omega) _) (by omega) _
  obtain ⟨R0, R0'⟩ : Row (((w.alloc (.cells (RC m p0 p1 o0 o1 sp f) 61)).alloc (.cells (RC 0 0 0 false false false fun _ => false) 61)).alloc (.cells (RC 0 0 0 false false false fun _ => false) 61)) w.heap.size (RC m p0 p1 o0 o1 sp f) := Row.of (((BoxN.new w 61 (RC m p0 p1 o0 o1 sp f)).alloc _).alloc _)
  obtain ⟨R1, R1'⟩ : Row (((w.alloc (.cells (RC m p0 p1 o0 o1 sp f) 61)).alloc (.cells (RC 0 0 0 false false false fun _ => false) 61)).alloc (.cells (RC 0 0 0 false false false fun _ => false) 61)) (w.heap.size + 1) (RC 0 0 0 false false false fun _ => false) := (by (have this := (BoxN.new (w.alloc (.cells (RC m p0 p1 o0 o1 sp f) 61)) 61 (RC 0 0 0 false false false fun _ => false)).alloc (.cells (RC 0 0 0 false false false fun _ => false) 61)); rw [World.size_alloc] at this; exact Row.of this)
  obtain ⟨R2, R2'⟩ : Row (((w.alloc (.cells (RC m p0 p1 o0 o1 sp f) 61)).alloc (.cells (RC 0 0 0 false false false fun _ => false) 61)).alloc (.cells (RC 0 0 0 false false false fun _ => false) 61)) (w.heap.size + 2) (RC 0 0 0 false false false fun _ => false) := (by (have this := BoxN.new ((w.alloc (.cells (RC m p0 p1 o0 o1 sp f) 61)).alloc (.cells (RC 0 0 0 false false false fun _ => false) 61)) 61 (RC 0 0 0 false false false fun _ => false)); rw [World.size_alloc, World.size_alloc] at this; exact Row.of this)
  have n02 : ¬ w.heap.size = w.heap.size + 2 := by omega
  have n12 : ¬ w.heap.size + 1 = w.heap.size + 2 := by omega
  have n21 : ¬ w.heap.size + 2 = w.heap.size + 1 := by omega
  have hRL := fun W : World => rReal_c (v % 256) W
  have b0 : 0 ≤ v % 256 := by omega
  have b1 : v % 256 ≤ 255 := by omega
  have b2 : 0 ≤ v % 8 := by omega
  have b3 : v % 8 ≤ 7 := by omega
  simp only [wM, wP0, wP1, wSp, wO0, wO1, if_true, show ¬ ((9 : Int) = 6) by decide, show ¬ ((9 : Int) = 7) by decide, show ¬ ((9 : Int) = 8) by decide, show ¬ ((9 : Int) = 10) by decide, show ¬ ((9 : Int) = 11) by decide, if_false]
  clear hRL
  go_enter Try.func43, Try.ntmps43
  go_wp2_with (go_at_call 52; refine (HRL.out _).mono ?_; rintro e w1 ⟨rfl, rfl⟩)
  exact bodyPost_ret (resF rfl _ rfl (Row.setRow (by go_simp)) RC_size rfl) rfl ⟨rfl, below_setRow (hB.setCell (p := ⟨w.heap.size + 2, _, none⟩) (by simp) _) (by omega) _⟩
set_option maxRecDepth 100000 in
set_option maxHeartbeats 4000000 in
theorem rWriteI_c10 (m p0 p1 : Int) (o0 o1 sp : Bool) (a b : Int) (v : Int) (hv0 : 0 ≤ v) (hv1 : v ≤ 18446744073709551615) (w : World) : Calls Try.prog 43 #[.agg (RC m p0 p1 o0 o1 sp (rb a b)), .int .i64 10, .int .u64 v] w fun e w' =>
    e = .returned (.tuple #[.agg (RC (wM 10 v m) (wP0 10 v p0) (wP1 10 v p1) (wO0 10 v o0) (wO1 10 v o1) (wSp 10 v sp) (rb a b)), .bool (wOk 10)]) ∧ Below w.heap.size w w' := by
  generalize rb a b = f at *
  have hB : Below w.heap.size w ((((w.alloc (.cells (RC m p0 p1 o0 o1 sp f) 61)).alloc (.cells (RC 0 0 0 false false false fun _ => false) 61)).alloc (.cells (RC 0 0 0 false false false fun _ => false) 61)).setRow (w.heap.size + 2) (RC m p0 p1 o0 o1 sp f)) := below_setRow ((((Below.refl _ w).alloc (Nat.le_refl _) _).alloc (by simp) _).alloc (by simp; omega) _) (by omega) _
  obtain ⟨R0, R0'⟩ : Row (((w.alloc (.cells (RC m p0 p1 o0 o1 sp f) 61)).alloc (.cells (RC 0 0 0 false false false fun _ => false) 61)).alloc (.cells (RC 0 0 0 false false false fun _ => false) 61)) w.heap.size (RC m p0 p1 o0 o1 sp f) := Row.of (((BoxN.new w 61 (RC m p0 p1 o0 o1 sp f)).alloc _).alloc _)
  obtain ⟨R1, R1'⟩ : Row (((w.alloc (.cells (RC m p0 p1 o0 o1 sp f) 61)).alloc (.cells (RC 0 0 0 false false false fun _ => false) 61)).alloc (.cells (RC 0 0 0 false false false fun _ => false) 61)) (w.heap.size + 1) (RC 0 0 0 false false false fun _ => false) := (by (have this := (BoxN.new (w.alloc (.cells (RC m p0 p1 o0 o1 sp f) 61)) 61 (RC 0 0 0 false false false fun _ => false)).alloc (.cells (RC 0 0 0 false false false fun _ => false) 61)); rw [World.size_alloc] at this; exact Row.of this)
  obtain ⟨R2, R2'⟩ : Row (((w.alloc (.cells (RC m p0 p1 o0 o1 sp f) 61)).alloc (.cells (RC 0 0 0 false false false fun _ => false) 61)).alloc (.cells (RC 0 0 0 false false false fun _ => false) 61)) (w.heap.size + 2) (RC 0 0 0 false false false fun _ => false) := (by (have this := BoxN.new ((w.alloc (.cells (RC m p0 p1 o0 o1 sp f) 61)).alloc (.cells (RC 0 0 0 false false false fun _ => false) 61)) 61 (RC 0 0 0 false false false fun _ => false)); rw [World.size_alloc, World.size_alloc] at this; exact Row.of this)
  have n02 : ¬ w.heap.size = w.heap.size + 2 := by omega
  have n12 : ¬ w.heap.size + 1 = w.heap.size + 2 := by omega
  have n21 : ¬ w.heap.size + 2 = w.heap.size + 1 := by omega
  have hRL := fun W : World => rReal_c (v % 256) W
  have b0 : 0 ≤ v % 256 := by omega
  have b1 : v % 256 ≤ 255 := by omega
  have b2 : 0 ≤ v % 8 := by omega
  have b3 : v % 8 ≤ 7 := by omega
  simp only [wM, wP0, wP1, wSp, wO0, wO1, if_true, show ¬ ((10 : Int) = 6) by decide, show ¬ ((10 : Int) = 7) by decide, show ¬ ((10 : Int) = 8) by decide, show ¬ ((10 : Int) = 9) by decide, show ¬ ((10 : Int) = 11) by decide, if_false]
  clear hRL
  go_enter Try.func43, Try.ntmps43
  go_wp2_with (go_at_call 52; refine (HRL.out _).mono ?_; rintro e w1 ⟨rfl, rfl⟩)
  exact bodyPost_ret (resF rfl _ rfl (Row.setRow (by go_simp)) RC_size rfl) rfl ⟨rfl, below_setRow (hB.setCell (p := ⟨w.heap.size + 2, _, none⟩) (by simp) _) (by omega) _⟩
set_option maxRecDepth 100000 in
set_option maxHeartbeats 4000000 in
theorem rWriteI_c11 (m p0 p1 : Int) (o0 o1 sp : Bool) (a b : Int) (v : Int) (hv0 : 0 ≤ v) (hv1 : v ≤ 18446744073709551615) (w : World) : Calls Try.prog 43 #[.agg (RC m p0 p1 o0 o1 sp (rb a b)), .int .i64 11, .int .u64 v] w fun e w' =>
    e = .returned (.tuple #[.agg (RC (wM 11 v m) (wP0 11 v p0) (wP1 11 v p1) (wO0 11 v o0) (wO1 11 v o1) (wSp 11 v sp) (rb a b)), .bool (wOk 11)]) ∧ Below w.heap.size w w' := by
  generalize rb a b = f at *
  have hB : Below w.heap.size w ((((w.alloc (.cells (RC m p0 p1 o0 o1 sp f) 61)).alloc (.cells (RC 0 0 0 false false false fun _ => false) 61)).alloc (.cells (RC 0 0 0 false false false fun _ => false) 61)).setRow (w.heap.size + 2) (RC m p0 p1 o0 o1 sp f)) := below_setRow ((((Below.refl _ w).alloc (Nat.le_refl _) _).alloc (by simp) _).alloc (by simp; omega) _) (by omega) _
  obtain ⟨R0, R0'⟩ : Row (((w.alloc (.cells (RC m p0 p1 o0 o1 sp f) 61)).alloc (.cells (RC 0 0 0 false false false fun _ => false) 61)).alloc (.cells (RC 0 0 0 false false false fun _ => false) 61)) w.heap.size (RC m p0 p1 o0 o1 sp f) := Row.of (((BoxN.new w 61 (RC m p0 p1 o0 o1 sp f)).alloc _).alloc _)
  obtain ⟨R1, R1'⟩ : Row (((w.alloc (.cells (RC m p0 p1 o0 o1 sp f) 61)).alloc (.cells (RC 0 0 0 false false false fun _ => false) 61)).alloc (.cells (RC 0 0 0 false false false fun _ => false) 61)) (w.heap.size + 1) (RC 0 0 0 false false false fun _ => false) := (by (have this := (BoxN.new (w.alloc (.cells (RC m p0 p1 o0 o1 sp f) 61)) 61 (RC 0 0 0 false false false fun _ => false)).alloc (.cells (RC 0 0 0 false false false fun _ => false) 61)); rw [World.size_alloc] at this; exact Row.of this)
  obtain ⟨R2, R2'⟩ : Row (((w.alloc (.cells (RC m p0 p1 o0 o1 sp f) 61)).alloc (.cells (RC 0 0 0 false false false fun _ => false) 61)).alloc (.cells (RC 0 0 0 false false false fun _ => false) 61)) (w.heap.size + 2) (RC 0 0 0 false false false fun _ => false) := (by (have this := BoxN.new ((w.alloc (.cells (RC m p0 p1 o0 o1 sp f) 61)).alloc (.cells (RC 0 0 0 false false false fun _ => false) 61)) 61 (RC 0 0 0 false false false fun _ => false)); rw [World.size_alloc, World.size_alloc] at this; exact Row.of this)
  have n02 : ¬ w.heap.size = w.heap.size + 2 := by omega
  have n12 : ¬ w.heap.size + 1 = w.heap.size + 2 := by omega
  have n21 : ¬ w.heap.size + 2 = w.heap.size + 1 := by omega
  have hRL := fun W : World => rReal_c (v % 256) W
  have b0 : 0 ≤ v % 256 := by omega
  have b1 : v % 256 ≤ 255 := by omega
  have b2 : 0 ≤ v % 8 := by omega
  have b3 : v % 8 ≤ 7 := by omega
  simp only [wM, wP0, wP1, wSp, wO0, wO1, if_true, show ¬ ((11 : Int) = 6) by decide, show ¬ ((11 : Int) = 7) by decide, show ¬ ((11 : Int) = 8) by decide, show ¬ ((11 : Int) = 9) by decide, show ¬ ((11 : Int) = 10) by decide, if_false]
  clear hRL
  go_enter Try.func43, Try.ntmps43
  go_wp2_with (go_at_call 52; refine (HRL.out _).mono ?_; rintro e w1 ⟨rfl, rfl⟩)
  exact bodyPost_ret (resF rfl _ rfl (Row.setRow (by go_simp)) RC_size rfl) rfl ⟨rfl, below_setRow (hB.setCell (p := ⟨w.heap.size + 2, _, none⟩) (by simp) _) (by omega) _⟩
set_option maxRecDepth 100000 in
set_option maxHeartbeats 4000000 in
theorem rWriteI_c80 (m p0 p1 : Int) (o0 o1 sp : Bool) (a b : Int) (v : Int) (hv0 : 0 ≤ v) (hv1 : v ≤ 18446744073709551615) (hz : ¬ v % 8 = 0) (w : World) : Calls Try.prog 43 #[.agg (RC m p0 p1 o0 o1 sp (rb a b)), .int .i64 8, .int .u64 v] w fun e w' =>
    e = .returned (.tuple #[.agg (RC (wM 8 v m) (wP0 8 v p0) (wP1 8 v p1) (wO0 8 v o0) (wO1 8 v o1) (wSp 8 v sp) (rb a b)), .bool (wOk 8)]) ∧ Below w.heap.size w w' := by
  generalize rb a b = f at *
  have hB : Below w.heap.size w ((((w.alloc (.cells (RC m p0 p1 o0 o1 sp f) 61)).alloc (.cells (RC 0 0 0 false false false fun _ => false) 61)).alloc (.cells (RC 0 0 0 false false false fun _ => false) 61)).setRow (w.heap.size + 2) (RC m p0 p1 o0 o1 sp f)) := below_setRow ((((Below.refl _ w).alloc (Nat.le_refl _) _).alloc (by simp) _).alloc (by simp; omega) _) (by omega) _
  obtain ⟨R0, R0'⟩ : Row (((w.alloc (.cells (RC m p0 p1 o0 o1 sp f) 61)).alloc (.cells (RC 0 0 0 false false false fun _ => false) 61)).alloc (.cells (RC 0 0 0 false false false fun _ => false) 61)) w.heap.size (RC m p0 p1 o0 o1 sp f) := Row.of (((BoxN.new w 61 (RC m p0 p1 o0 o1 sp f)).alloc _).alloc _)
  obtain ⟨R1, R1'⟩ : Row (((w.alloc (.cells (RC m p0 p1 o0 o1 sp f) 61)).alloc (.cells (RC 0 0 0 false false false fun _ => false) 61)).alloc (.cells (RC 0 0 0 false false false fun _ => false) 61)) (w.heap.size + 1) (RC 0 0 0 false false false fun _ => false) := (by (have this := (BoxN.new (w.alloc (.cells (RC m p0 p1 o0 o1 sp f) 61)) 61 (RC 0 0 0 false false false fun _ => false)).alloc (.cells (RC 0 0 0 false false false fun _ => false) 61)); rw [World.size_alloc] at this; exact Row.of this)
  obtain ⟨R2, R2'⟩ : Row (((w.alloc (.cells (RC m p0 p1 o0 o1 sp f) 61)).alloc (.cells (RC 0 0 0 false false false fun _ => false) 61)).alloc (.cells (RC 0 0 0 false false false fun _ => false) 61)) (w.heap.size + 2) (RC 0 0 0 false false false fun _ => false) := (by (have this := BoxN.new ((w.alloc (.cells (RC m p0 p1 o0 o1 sp f) 61)).alloc (.cells (RC 0 0 0 false false false fun _ => false) 61)) 61 (RC 0 0 0 false false false fun _ => false)); rw [World.size_alloc, World.size_alloc] at this; exact Row.of this)
  have n02 : ¬ w.heap.size = w.heap.size + 2 := by omega
  have n12 : ¬ w.heap.size + 1 = w.heap.size + 2 := by omega
  have n21 : ¬ w.heap.size + 2 = w.heap.size + 1 := by omega
  have hRL := fun W : World => rReal_c (v % 256) W
  have b0 : 0 ≤ v % 256 := by omega
  have b1 : v % 256 ≤ 255 := by omega
  have b2 : 0 ≤ v % 8 := by omega
  have b3 : v % 8 ≤ 7 := by omega
  simp only [wM, wP0, wP1, wSp, wO0, wO1, if_true, show ¬ ((8 : Int) = 6) by decide, show ¬ ((8 : Int) = 7) by decide, show ¬ ((8 : Int) = 9) by decide, show ¬ ((8 : Int) = 10) by decide, show ¬ ((8 : Int) = 11) by decide, if_false]
  clear hRL
  rw [if_neg hz]
  have hzz : (v % 8 == 0) = false := by simpa using hz
  clear hz
  go_enter Try.func43, Try.ntmps43
  go_wp2_with (go_at_call 52; refine (HRL.out _).mono ?_; rintro e w1 ⟨rfl, rfl⟩)
  exact bodyPost_ret (resF rfl _ rfl (Row.setRow (by go_simp)) RC_size rfl) rfl ⟨rfl, below_setRow (hB.setCell (p := ⟨w.heap.size + 2, _, none⟩) (by simp) _) (by omega) _⟩
set_option maxRecDepth 100000 in
set_option maxHeartbeats 4000000 in
theorem rWriteI_c81 (m p0 p1 : Int) (o0 o1 sp : Bool) (a b : Int) (v : Int) (hv0 : 0 ≤ v) (hv1 : v ≤ 18446744073709551615) (hz : v % 8 = 0) (w : World) : Calls Try.prog 43 #[.agg (RC m p0 p1 o0 o1 sp (rb a b)), .int .i64 8, .int .u64 v] w fun e w' =>
    e = .returned (.tuple #[.agg (RC (wM 8 v m) (wP0 8 v p0) (wP1 8 v p1) (wO0 8 v o0) (wO1 8 v o1) (wSp 8 v sp) (rb a b)), .bool (wOk 8)]) ∧ Below w.heap.size w w' := by
  generalize rb a b = f at *
  have hB : Below w.heap.size w ((((w.alloc (.cells (RC m p0 p1 o0 o1 sp f) 61)).alloc (.cells (RC 0 0 0 false false false fun _ => false) 61)).alloc (.cells (RC 0 0 0 false false false fun _ => false) 61)).setRow (w.heap.size + 2) (RC m p0 p1 o0 o1 sp f)) := below_setRow ((((Below.refl _ w).alloc (Nat.le_refl _) _).alloc (by simp) _).alloc (by simp; omega) _) (by omega) _
  obtain ⟨R0, R0'⟩ : Row (((w.alloc (.cells (RC m p0 p1 o0 o1 sp f) 61)).alloc (.cells (RC 0 0 0 false false false fun _ => false) 61)).alloc (.cells (RC 0 0 0 false false false fun _ => false) 61)) w.heap.size (RC m p0 p1 o0 o1 sp f) := Row.of (((BoxN.new w 61 (RC m p0 p1 o0 o1 sp f)).alloc _).alloc _)
  obtain ⟨R1, R1'⟩ : Row (((w.alloc (.cells (RC m p0 p1 o0 o1 sp f) 61)).alloc (.cells (RC 0 0 0 false false false fun _ => false) 61)).alloc (.cells (RC 0 0 0 false false false fun _ => false) 61)) (w.heap.size + 1) (RC 0 0 0 false false false fun _ => false) := (by (have this := (BoxN.new (w.alloc (.cells (RC m p0 p1 o0 o1 sp f) 61)) 61 (RC 0 0 0 false false false fun _ => false)).alloc (.cells (RC 0 0 0 false false false fun _ => false) 61)); rw [World.size_alloc] at this; exact Row.of this)
  obtain ⟨R2, R2'⟩ : Row (((w.alloc (.cells (RC m p0 p1 o0 o1 sp f) 61)).alloc (.cells (RC 0 0 0 false false false fun _ => false) 61)).alloc (.cells (RC 0 0 0 false false false fun _ => false) 61)) (w.heap.size + 2) (RC 0 0 0 false false false fun _ => false) := (by (have this := BoxN.new ((w.alloc (.cells (RC m p0 p1 o0 o1 sp f) 61)).alloc (.cells (RC 0 0 0 false false false fun _ => false) 61)) 61 (RC 0 0 0 false false false fun _ => false)); rw [World.size_alloc, World.size_alloc] at this; exact Row.of this)
  have n02 : ¬ w.heap.size = w.heap.size + 2 := by omega
  have n12 : ¬ w.heap.size + 1 = w.heap.size + 2 := by omega
  have n21 : ¬ w.heap.size + 2 = w.heap.size + 1 := by omega
  have hRL := fun W : World => rReal_c (v % 256) W
  have b0 : 0 ≤ v % 256 := by omega
  have b1 : v % 256 ≤ 255 := by omega
  have b2 : 0 ≤ v % 8 := by omega
  have b3 : v % 8 ≤ 7 := by omega
  simp only [wM, wP0, wP1, wSp, wO0, wO1, if_true, show ¬ ((8 : Int) = 6) by decide, show ¬ ((8 : Int) = 7) by decide, show ¬ ((8 : Int) = 9) by decide, show ¬ ((8 : Int) = 10) by decide, show ¬ ((8 : Int) = 11) by decide, if_false]
  clear hRL
  rw [if_pos hz]
  have hzz : (v % 8 == 0) = true := by simpa using hz
  clear hz
  go_enter Try.func43, Try.ntmps43
  go_wp2_with (go_at_call 52; refine (HRL.out _).mono ?_; rintro e w1 ⟨rfl, rfl⟩)
  exact bodyPost_ret (resF rfl _ rfl (Row.setRow (by go_simp)) RC_size rfl) rfl ⟨rfl, below_setRow ((hB.setCell (p := ⟨w.heap.size + 2, _, none⟩) (by simp) _).setCell (p := ⟨w.heap.size + 2, _, none⟩) (by simp) _) (by omega) _⟩
set_option maxRecDepth 100000 in
set_option maxHeartbeats 4000000 in
theorem rWriteI_cn (m p0 p1 : Int) (o0 o1 sp : Bool) (a b : Int) (r v : Int) (h6 : ¬ r = 6) (h7 : ¬ r = 7) (h8 : ¬ r = 8) (h9 : ¬ r = 9) (h10 : ¬ r = 10) (h11 : ¬ r = 11) (w : World) : Calls Try.prog 43 #[.agg (RC m p0 p1 o0 o1 sp (rb a b)), .int .i64 r, .int .u64 v] w fun e w' =>
    e = .returned (.tuple #[.agg (RC (wM r v m) (wP0 r v p0) (wP1 r v p1) (wO0 r v o0) (wO1 r v o1) (wSp r v sp) (rb a b)), .bool (wOk r)]) ∧ Below w.heap.size w w' := by
  generalize rb a b = f at *
  have hB : Below w.heap.size w ((((w.alloc (.cells (RC m p0 p1 o0 o1 sp f) 61)).alloc (.cells (RC 0 0 0 false false false fun _ => false) 61)).alloc (.cells (RC 0 0 0 false false false fun _ => false) 61)).setRow (w.heap.size + 2) (RC m p0 p1 o0 o1 sp f)) := below_setRow ((((Below.refl _ w).alloc (Nat.le_refl _) _).alloc (by simp) _).alloc (by simp; omega) _) (by omega) _
  obtain ⟨R0, R0'⟩ : Row (((w.alloc (.cells (RC m p0 p1 o0 o1 sp f) 61)).alloc (.cells (RC 0 0 0 false false false fun _ => false) 61)).alloc (.cells (RC 0 0 0 false false false fun _ => false) 61)) w.heap.size (RC m p0 p1 o0 o1 sp f) := Row.of (((BoxN.new w 61 (RC m p0 p1 o0 o1 sp f)).alloc _).alloc _)
  obtain ⟨R1, R1'⟩ : Row (((w.alloc (.cells (RC m p0 p1 o0 o1 sp f) 61)).alloc (.cells (RC 0 0 0 false false false fun _ => false) 61)).alloc (.cells (RC 0 0 0 false false false fun _ => false) 61)) (w.heap.size + 1) (RC 0 0 0 false false false fun _ => false) := (by (have this := (BoxN.new (w.alloc (.cells (RC m p0 p1 o0 o1 sp f) 61)) 61 (RC 0 0 0 false false false fun _ => false)).alloc (.cells (RC 0 0 0 false false false fun _ => false) 61)); rw [World.size_alloc] at this; exact Row.of this)
  obtain ⟨R2, R2'⟩ : Row (((w.alloc (.cells (RC m p0 p1 o0 o1 sp f) 61)).alloc (.cells (RC 0 0 0 false false false fun _ => false) 61)).alloc (.cells (RC 0 0 0 false false false fun _ => false) 61)) (w.heap.size + 2) (RC 0 0 0 false false false fun _ => false) := (by (have this := BoxN.new ((w.alloc (.cells (RC m p0 p1 o0 o1 sp f) 61)).alloc (.cells (RC 0 0 0 false false false fun _ => false) 61)) 61 (RC 0 0 0 false false false fun _ => false)); rw [World.size_alloc, World.size_alloc] at this; exact Row.of this)
  have n02 : ¬ w.heap.size = w.heap.size + 2 := by omega
  have n12 : ¬ w.heap.size + 1 = w.heap.size + 2 := by omega
  have n21 : ¬ w.heap.size + 2 = w.heap.size + 1 := by omega
  have hRL := fun W : World => rReal_c (v % 256) W
  have b0 : 0 ≤ v % 256 := by omega
  have b1 : v % 256 ≤ 255 := by omega
  have b2 : 0 ≤ v % 8 := by omega
  have b3 : v % 8 ≤ 7 := by omega
  clear hRL
  have e6 : (r == 6) = false := by simpa using h6
  have e7 : (r == 7) = false := by simpa using h7
  have e8 : (r == 8) = false := by simpa using h8
  have e9 : (r == 9) = false := by simpa using h9
  have e10 : (r == 10) = false := by simpa using h10
  have e11 : (r == 11) = false := by simpa using h11
  simp only [wM, wP0, wP1, wSp, wO0, wO1, if_neg h6, if_neg h7, if_neg h8, if_neg h9, if_neg h10, if_neg h11, wok_no h6 h7 h8 h9 h10 h11]
  clear h6 h7 h8 h9 h10 h11
  go_enter Try.func43, Try.ntmps43
  go_wp2_with (go_at_call 52; refine (HRL.out _).mono ?_; rintro e w1 ⟨rfl, rfl⟩)
  exact bodyPost_ret (resF rfl _ rfl (Row.setRow (by go_simp)) RC_size rfl) rfl ⟨rfl, below_setRow hB (by omega) _⟩
theorem rWriteI_c (m p0 p1 : Int) (o0 o1 sp : Bool) (a b : Int) (r v : Int) (hv0 : 0 ≤ v) (hv1 : v ≤ 18446744073709551615) (w : World) : Calls Try.prog 43 #[.agg (RC m p0 p1 o0 o1 sp (rb a b)), .int .i64 r, .int .u64 v] w fun e w' =>
    e = .returned (.tuple #[.agg (RC (wM r v m) (wP0 r v p0) (wP1 r v p1) (wO0 r v o0) (wO1 r v o1) (wSp r v sp) (rb a b)), .bool (wOk r)]) ∧ Below w.heap.size w w' := by
  by_cases h6 : r = 6
  · subst h6; exact rWriteI_c6 m p0 p1 o0 o1 sp a b v hv0 hv1 w
  by_cases h7 : r = 7
  · subst h7; exact rWriteI_c7 m p0 p1 o0 o1 sp a b v hv0 hv1 w
  by_cases h8 : r = 8
  · subst h8
    by_cases hz : v % 8 = 0
    · exact rWriteI_c81 m p0 p1 o0 o1 sp a b v hv0 hv1 hz w
    · exact rWriteI_c80 m p0 p1 o0 o1 sp a b v hv0 hv1 hz w
  by_cases h9 : r = 9
  · subst h9; exact rWriteI_c9 m p0 p1 o0 o1 sp a b v hv0 hv1 w
  by_cases h10 : r = 10
  · subst h10; exact rWriteI_c10 m p0 p1 o0 o1 sp a b v hv0 hv1 w
  by_cases h11 : r = 11
  · subst h11; exact rWriteI_c11 m p0 p1 o0 o1 sp a b v hv0 hv1 w
  exact rWriteI_cn m p0 p1 o0 o1 sp a b r v h6 h7 h8 h9 h10 h11 w
end Go.Proofs.Ytpjenhojldcmiaa
