/- Contracts by hand: the document's interface: what is taken and dropped. -/
import Derived.Test.YtpjenhojldcmiaaCp6
import Derived.Test.YtpjenhojldcmiaaLadP
namespace Go.Proofs.Ytpjenhojldcmiaa
open Go.RowKit Go.Shelf
attribute [local go_sem] Oper.semAt_some cell_row frozen_row isRow_setCell_eq rowAt_setCell_same rowAt_setCell_other isRow_alloc_eq rowAt_alloc rowAt_new isRow_setRow_eq rowAt_setRow_same rowAt_setRow_other isRow_drew rowAt_drew size_setRow_ Lb_size Lb_at blk_ptr aggOf_agg below_alloc_r below_setCell_r below_setRow_r below_drew_r le_add_r RC_size RC_get0 RC_at0 RC_set0 RC_get1 RC_at1 RC_set1 RC_get2 RC_at2 RC_set2 RC_get3 RC_at3 RC_set3 RC_get4 RC_at4 RC_set4 RC_get5 RC_at5 RC_set5 zeroF RC_ext RC_spl RC_one offv_ptr one_lad zero_lad allOne_nil allOne_cons Value.oneCell' zero_rc
attribute [local go_sem ↓] loadF storeF loadA storeA loadM storeM
def TkA (m p0 p1 : Int) (o0 o1 : Bool) (a b pr gr : Int) (is : Bool) (gp : Int) : Int := if takeB m p0 p1 o0 o1 a b pr gr is gp then setA .or a gp (levP p0 p1 pr gp) else a
def TkB (m p0 p1 : Int) (o0 o1 : Bool) (a b pr gr : Int) (is : Bool) (gp : Int) : Int := if takeB m p0 p1 o0 o1 a b pr gr is gp then setB .or b gp (levP p0 p1 pr gp) else b
set_option maxRecDepth 100000 in
set_option maxHeartbeats 4000000 in
theorem rTake_c (m p0 p1 : Int) (o0 o1 sp : Bool) (a b : Int) (id pr gr : Int) (is : Bool) (gp : Int) (w : World) : Calls Try.prog 41 #[.agg (RC m p0 p1 o0 o1 sp (rb a b)), .agg #[.int .i64 id, .int .i64 pr, .int .i64 gr, .bool is], .int .i64 gp] w fun e w' =>
    e = .returned (.tuple #[.agg (RC m p0 p1 o0 o1 sp (rb (TkA m p0 p1 o0 o1 a b pr gr is gp) (TkB m p0 p1 o0 o1 a b pr gr is gp))), .int .i64 (if takeB m p0 p1 o0 o1 a b pr gr is gp then id else 1023), .bool (takeB m p0 p1 o0 o1 a b pr gr is gp)]) ∧ Below w.heap.size w w' := by
  have HMAY := Lib.hid (fun W : World => rMay_c m p0 p1 o0 o1 sp a b id pr gr is W)
  by_cases hg : gr = gp
  · subst hg
    cases hm : mayP m p0 p1 o0 o1 a b pr gr is with
    | false =>
      have ht : takeB m p0 p1 o0 o1 a b pr gr is gr = false := by unfold takeB; rw [hm]; rfl
      rw [hm] at HMAY
      unfold TkA TkB
      rw [ht]
      simp only [Bool.false_eq_true, if_false]
      clear ht hm
      generalize rb a b = f at *
      have hB0 : Below w.heap.size w (((w.alloc (.cells (RC m p0 p1 o0 o1 sp f) 61)).alloc (.cells #[.int .i64 id, .int .i64 pr, .int .i64 gr, .bool is] 31)).alloc (.cells (RC 0 0 0 false false false fun _ => false) 61)) := (((Below.refl _ w).alloc (Nat.le_refl _) _).alloc (by simp) _).alloc (by simp; omega) _
      obtain ⟨R0, R0'⟩ : Row (((w.alloc (.cells (RC m p0 p1 o0 o1 sp f) 61)).alloc (.cells #[.int .i64 id, .int .i64 pr, .int .i64 gr, .bool is] 31)).alloc (.cells (RC 0 0 0 false false false fun _ => false) 61)) w.heap.size (RC m p0 p1 o0 o1 sp f) := Row.of (((BoxN.new w 61 (RC m p0 p1 o0 o1 sp f)).alloc _).alloc _)
      obtain ⟨R1, R1'⟩ : Row (((w.alloc (.cells (RC m p0 p1 o0 o1 sp f) 61)).alloc (.cells #[.int .i64 id, .int .i64 pr, .int .i64 gr, .bool is] 31)).alloc (.cells (RC 0 0 0 false false false fun _ => false) 61)) (w.heap.size + 1) #[.int .i64 id, .int .i64 pr, .int .i64 gr, .bool is] := by (have this := BoxN.new (w.alloc (.cells (RC m p0 p1 o0 o1 sp f) 61)) 31 #[.int .i64 id, .int .i64 pr, .int .i64 gr, .bool is]; rw [World.size_alloc] at this; exact Row.of (this.alloc _))
      obtain ⟨R2, R2'⟩ : Row (((w.alloc (.cells (RC m p0 p1 o0 o1 sp f) 61)).alloc (.cells #[.int .i64 id, .int .i64 pr, .int .i64 gr, .bool is] 31)).alloc (.cells (RC 0 0 0 false false false fun _ => false) 61)) (w.heap.size + 2) (RC 0 0 0 false false false fun _ => false) := by
        have := Row.new ((w.alloc (.cells (RC m p0 p1 o0 o1 sp f) 61)).alloc (.cells #[.int .i64 id, .int .i64 pr, .int .i64 gr, .bool is] 31)) 61 (RC 0 0 0 false false false fun _ => false); simpa using this
      have hz := hB0.size
      go_enter Try.func41, Try.ntmps41
      go_wp2_with (go_at_call 25; refine (HMAY.out _).mono ?_; rintro e w1 ⟨rfl, hb1⟩; obtain ⟨Q0, Q0'⟩ := Row.step R0 R0' hb1; obtain ⟨Q2, Q2'⟩ := Row.step R2 R2' hb1; have hB1 := bk hB0 hz hb1)
      first | exact bodyPost_ret (resF3 rfl _ rfl (Row.setRow Q2) RC_size rfl rfl) rfl ⟨rfl, below_setRow hB1 (by omega) _⟩ | exact bodyPost_ret (resF3 rfl _ rfl (Row.setRow R2) RC_size rfl rfl) rfl ⟨rfl, below_setRow hB0 (by omega) _⟩
    | true =>
      have ht : takeB m p0 p1 o0 o1 a b pr gr is gr = true := by unfold takeB; rw [hm]; simp
      rw [hm] at HMAY
      unfold TkA TkB
      rw [ht]
      simp only [if_true]
      have HBI := Lib.hid (fun W : World => rbits_c m p0 p1 o0 o1 sp a b gr W)
      have HSE := Lib.hid (show ∀ W : World, Calls Try.prog 50 #[.agg (Lb (rb a b)), .int .i64 gr, .int .i64 (bits .and .i64 pr (maskP (gr % 2) (ptP p0 p1 gr))), .bool true] W fun e w' => e = .returned (.agg (Lb (rb (setA .or a gr (levP p0 p1 pr gr)) (setB .or b gr (levP p0 p1 pr gr))))) ∧ Below W.heap.size W w' from fun W => by
        have := rSet_c (rb a b) gr (levP p0 p1 pr gr) true W
        rw [Lb_push] at this
        exact this)
      clear ht hm
      generalize rb (setA .or a gr (levP p0 p1 pr gr)) (setB .or b gr (levP p0 p1 pr gr)) = f' at *
      generalize maskP (gr % 2) (ptP p0 p1 gr) = mk at *
      generalize rb a b = f at *
      have hB0 : Below w.heap.size w (((w.alloc (.cells (RC m p0 p1 o0 o1 sp f) 61)).alloc (.cells #[.int .i64 id, .int .i64 pr, .int .i64 gr, .bool is] 31)).alloc (.cells (RC 0 0 0 false false false fun _ => false) 61)) := (((Below.refl _ w).alloc (Nat.le_refl _) _).alloc (by simp) _).alloc (by simp; omega) _
      obtain ⟨R0, R0'⟩ : Row (((w.alloc (.cells (RC m p0 p1 o0 o1 sp f) 61)).alloc (.cells #[.int .i64 id, .int .i64 pr, .int .i64 gr, .bool is] 31)).alloc (.cells (RC 0 0 0 false false false fun _ => false) 61)) w.heap.size (RC m p0 p1 o0 o1 sp f) := Row.of (((BoxN.new w 61 (RC m p0 p1 o0 o1 sp f)).alloc _).alloc _)
      obtain ⟨R1, R1'⟩ : Row (((w.alloc (.cells (RC m p0 p1 o0 o1 sp f) 61)).alloc (.cells #[.int .i64 id, .int .i64 pr, .int .i64 gr, .bool is] 31)).alloc (.cells (RC 0 0 0 false false false fun _ => false) 61)) (w.heap.size + 1) #[.int .i64 id, .int .i64 pr, .int .i64 gr, .bool is] := by (have this := BoxN.new (w.alloc (.cells (RC m p0 p1 o0 o1 sp f) 61)) 31 #[.int .i64 id, .int .i64 pr, .int .i64 gr, .bool is]; rw [World.size_alloc] at this; exact Row.of (this.alloc _))
      obtain ⟨R2, R2'⟩ : Row (((w.alloc (.cells (RC m p0 p1 o0 o1 sp f) 61)).alloc (.cells #[.int .i64 id, .int .i64 pr, .int .i64 gr, .bool is] 31)).alloc (.cells (RC 0 0 0 false false false fun _ => false) 61)) (w.heap.size + 2) (RC 0 0 0 false false false fun _ => false) := by
        have := Row.new ((w.alloc (.cells (RC m p0 p1 o0 o1 sp f) 61)).alloc (.cells #[.int .i64 id, .int .i64 pr, .int .i64 gr, .bool is] 31)) 61 (RC 0 0 0 false false false fun _ => false); simpa using this
      have hz := hB0.size
      go_enter Try.func41, Try.ntmps41
      go_wp2_with (go_at_call 25; refine (HMAY.out _).mono ?_; rintro e w1 ⟨rfl, hb1⟩; obtain ⟨Q0, Q0'⟩ := Row.step R0 R0' hb1; obtain ⟨Q1, Q1'⟩ := Row.step R1 R1' hb1; obtain ⟨Q2, Q2'⟩ := Row.step R2 R2' hb1; have hB1 := bk hB0 hz hb1)
      have n0 : ¬ w.heap.size = w1.heap.size := by have := Q0.lt; omega
      have n1 : ¬ w.heap.size + 1 = w1.heap.size := by have := Q1.lt; omega
      have n2 : ¬ w.heap.size + 2 = w1.heap.size := by have := Q2.lt; omega
      have S0 : isRow ((w1.alloc (.cells (RC 0 0 0 false false false fun _ => false) 61)).setRow w1.heap.size (RC m p0 p1 o0 o1 sp f)) w.heap.size := by go_simp
      have S0' : rowAt ((w1.alloc (.cells (RC 0 0 0 false false false fun _ => false) 61)).setRow w1.heap.size (RC m p0 p1 o0 o1 sp f)) w.heap.size = RC m p0 p1 o0 o1 sp f := by go_simp
      have S1 : isRow ((w1.alloc (.cells (RC 0 0 0 false false false fun _ => false) 61)).setRow w1.heap.size (RC m p0 p1 o0 o1 sp f)) (w.heap.size + 1) := by go_simp
      have S1' : rowAt ((w1.alloc (.cells (RC 0 0 0 false false false fun _ => false) 61)).setRow w1.heap.size (RC m p0 p1 o0 o1 sp f)) (w.heap.size + 1) = #[.int .i64 id, .int .i64 pr, .int .i64 gr, .bool is] := by go_simp
      have S2 : isRow ((w1.alloc (.cells (RC 0 0 0 false false false fun _ => false) 61)).setRow w1.heap.size (RC m p0 p1 o0 o1 sp f)) (w.heap.size + 2) := by go_simp
      have S2' : rowAt ((w1.alloc (.cells (RC 0 0 0 false false false fun _ => false) 61)).setRow w1.heap.size (RC m p0 p1 o0 o1 sp f)) (w.heap.size + 2) = RC 0 0 0 false false false fun _ => false := by go_simp
      have S3 : isRow ((w1.alloc (.cells (RC 0 0 0 false false false fun _ => false) 61)).setRow w1.heap.size (RC m p0 p1 o0 o1 sp f)) w1.heap.size := by go_simp
      have S3' : rowAt ((w1.alloc (.cells (RC 0 0 0 false false false fun _ => false) 61)).setRow w1.heap.size (RC m p0 p1 o0 o1 sp f)) w1.heap.size = RC m p0 p1 o0 o1 sp f := by go_simp
      have hB2 : Below w.heap.size w ((w1.alloc (.cells (RC 0 0 0 false false false fun _ => false) 61)).setRow w1.heap.size (RC m p0 p1 o0 o1 sp f)) := below_setRow (hB1.alloc hB1.size _) hB1.size _
      generalize (w1.alloc (.cells (RC 0 0 0 false false false fun _ => false) 61)).setRow w1.heap.size (RC m p0 p1 o0 o1 sp f) = V at *
      have hg9 : w.heap.size ≤ w1.heap.size := hB1.size
      generalize w1.heap.size = g9 at *
      clear Q0 Q0' Q1 Q1' Q2 Q2' R0 R0' R1 R1' R2 R2' hb1 hB0 hB1 hz
      (first | go_region_held3 (fun w' => isRow w' w.heap.size ∧ rowAt w' w.heap.size = RC m p0 p1 o0 o1 sp f ∧ isRow w' (w.heap.size + 1) ∧ rowAt w' (w.heap.size + 1) = #[.int .i64 id, .int .i64 pr, .int .i64 gr, .bool is] ∧ isRow w' (w.heap.size + 2) ∧ rowAt w' (w.heap.size + 2) = (RC 0 0 0 false false false fun _ => false) ∧ isRow w' g9 ∧ (rowAt w' g9).size = 70 ∧ spl (rowAt w' g9) 6 (Lb f') = RC m p0 p1 o0 o1 sp f' ∧ Below w.heap.size w w') (first | exact ⟨S0, S0', S1, S1', S2, S2', S3, (congrArg Array.size S3').trans RC_size, (congrArg (fun x => spl x 6 (Lb f')) S3').trans RC_spl, below_drew0 hB2⟩ | (go_split_ands; exact ⟨rk1 (by assumption) hb, rk2 (by assumption) (by assumption) hb, rk1 (by assumption) hb, rk2 (by assumption) (by assumption) hb, rk1 (by assumption) hb, rk2 (by assumption) (by assumption) hb, rk1 (by assumption) hb, by rw [rk3 (by assumption) hb]; assumption, by rw [rk3 (by assumption) hb]; assumption, bk (by assumption) (Below.size (by assumption)) hb⟩) | (go_split_ands; refine ⟨?_, ?_, ?_, ?_, ?_, ?_, ?_, ?_, ?_, ?_⟩ <;> go_simp)) (first | (go_at_call 47; (with_reducible refine (HBI.out _).mono ?_); rintro e w2 ⟨rfl, hb⟩) | (go_at_call 50; (with_reducible refine (HSE.out _).mono ?_); rintro e w3 ⟨rfl, hb⟩)) | fail)
      go_split_ands
      have T0 : isRow (w3.setRow g9 (RC m p0 p1 o0 o1 sp f')) g9 := by assumption
      have T0' : rowAt (w3.setRow g9 (RC m p0 p1 o0 o1 sp f')) g9 = RC m p0 p1 o0 o1 sp f' := rowAt_setRow_same (by rwa [isRow_setRow_eq] at T0)
      have T1 : isRow (w3.setRow g9 (RC m p0 p1 o0 o1 sp f')) (w.heap.size + 1) := by assumption
      have T1' : rowAt (w3.setRow g9 (RC m p0 p1 o0 o1 sp f')) (w.heap.size + 1) = #[.int .i64 id, .int .i64 pr, .int .i64 gr, .bool is] := by assumption
      have T2 : isRow (w3.setRow g9 (RC m p0 p1 o0 o1 sp f')) (w.heap.size + 2) := by assumption
      have T2' : rowAt (w3.setRow g9 (RC m p0 p1 o0 o1 sp f')) (w.heap.size + 2) = (RC 0 0 0 false false false fun _ => false) := by assumption
      have hB5 : Below w.heap.size w (w3.setRow g9 (RC m p0 p1 o0 o1 sp f')) := by assumption
      generalize w3.setRow g9 (RC m p0 p1 o0 o1 sp f') = V5 at *
      clear S0 S0' S1 S1' S2 S2' S3 S3' hB2
      have n3 : ¬ g9 = w.heap.size + 2 := fun e => n2 e.symm
      go_wp2_with fail
      (first | go_region_held3 (fun w' => isRow w' g9 ∧ rowAt w' g9 = RC m p0 p1 o0 o1 sp f' ∧ isRow w' (w.heap.size + 1) ∧ rowAt w' (w.heap.size + 1) = #[.int .i64 id, .int .i64 pr, .int .i64 gr, .bool is] ∧ isRow w' (w.heap.size + 2) ∧ (rowAt w' (w.heap.size + 2)).size = 70 ∧ Below w.heap.size w w') (first | exact ⟨T0, T0', T1, T1', T2, (congrArg Array.size T2').trans RC_size, below_drew0 hB5⟩ | (go_split_ands; refine ⟨?_, ?_, ?_, ?_, ?_, ?_, ?_⟩ <;> go_simp)) (fail) | fail)
      all_goals
        go_split_ands
        go_wp2_with fail
        exact bodyPost_ret (resF3 rfl _ rfl ⟨by assumption, rowAt_setRow_same (isRow_setRow_eq.mp (by assumption))⟩ RC_size rfl rfl) rfl ⟨rfl, by assumption⟩
  · have ht : takeB m p0 p1 o0 o1 a b pr gr is gp = false := by unfold takeB; simp [hg]
    have hg' : (gr != gp) = true := by simp [bne, hg]
    unfold TkA TkB
    rw [ht]
    simp only [Bool.false_eq_true, if_false]
    clear ht hg
    generalize rb a b = f at *
    have hB0 : Below w.heap.size w (((w.alloc (.cells (RC m p0 p1 o0 o1 sp f) 61)).alloc (.cells #[.int .i64 id, .int .i64 pr, .int .i64 gr, .bool is] 31)).alloc (.cells (RC 0 0 0 false false false fun _ => false) 61)) := (((Below.refl _ w).alloc (Nat.le_refl _) _).alloc (by simp) _).alloc (by simp; omega) _
    obtain ⟨R0, R0'⟩ : Row (((w.alloc (.cells (RC m p0 p1 o0 o1 sp f) 61)).alloc (.cells #[.int .i64 id, .int .i64 pr, .int .i64 gr, .bool is] 31)).alloc (.cells (RC 0 0 0 false false false fun _ => false) 61)) w.heap.size (RC m p0 p1 o0 o1 sp f) := Row.of (((BoxN.new w 61 (RC m p0 p1 o0 o1 sp f)).alloc _).alloc _)
    obtain ⟨R1, R1'⟩ : Row (((w.alloc (.cells (RC m p0 p1 o0 o1 sp f) 61)).alloc (.cells #[.int .i64 id, .int .i64 pr, .int .i64 gr, .bool is] 31)).alloc (.cells (RC 0 0 0 false false false fun _ => false) 61)) (w.heap.size + 1) #[.int .i64 id, .int .i64 pr, .int .i64 gr, .bool is] := by (have this := BoxN.new (w.alloc (.cells (RC m p0 p1 o0 o1 sp f) 61)) 31 #[.int .i64 id, .int .i64 pr, .int .i64 gr, .bool is]; rw [World.size_alloc] at this; exact Row.of (this.alloc _))
    obtain ⟨R2, R2'⟩ : Row (((w.alloc (.cells (RC m p0 p1 o0 o1 sp f) 61)).alloc (.cells #[.int .i64 id, .int .i64 pr, .int .i64 gr, .bool is] 31)).alloc (.cells (RC 0 0 0 false false false fun _ => false) 61)) (w.heap.size + 2) (RC 0 0 0 false false false fun _ => false) := by
      have := Row.new ((w.alloc (.cells (RC m p0 p1 o0 o1 sp f) 61)).alloc (.cells #[.int .i64 id, .int .i64 pr, .int .i64 gr, .bool is] 31)) 61 (RC 0 0 0 false false false fun _ => false); simpa using this
    have hz := hB0.size
    go_enter Try.func41, Try.ntmps41
    go_wp2_with (go_at_call 25; refine (HMAY.out _).mono ?_; rintro e w1 ⟨rfl, hb1⟩; obtain ⟨Q0, Q0'⟩ := Row.step R0 R0' hb1; obtain ⟨Q2, Q2'⟩ := Row.step R2 R2' hb1; have hB1 := bk hB0 hz hb1)
    first | exact bodyPost_ret (resF3 rfl _ rfl (Row.setRow Q2) RC_size rfl rfl) rfl ⟨rfl, below_setRow hB1 (by omega) _⟩ | exact bodyPost_ret (resF3 rfl _ rfl (Row.setRow R2) RC_size rfl rfl) rfl ⟨rfl, below_setRow hB0 (by omega) _⟩
end Go.Proofs.Ytpjenhojldcmiaa
