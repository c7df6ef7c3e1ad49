/- Texts of this claim, put together: Cp7, Vg, Vh, Vi, Vj. -/
import Derived.Test.YtkbaghblchlcnaaD15
import Derived.Test.YtkbaghblchlcnaaD18
import Derived.Test.YtkbaghblchlcnaaD20
import Derived.Test.YtkbaghblchlcnaaD19
import Derived.Deep.RegionHeld3
import Derived.Deep.RegionWith
import Derived.RegionTactic
import Derived.ChangeAlike
namespace Go.Proofs.Ytkbaghblchlcnaa
open Go.RowKit Go.Shelf
attribute [local go_sem] Oper.semAt_some cell_row frozen_row isRow_setCell_eq rowAt_setCell_same rowAt_setCell_other isRow_alloc_eq rowAt_alloc rowAt_new isRow_setRow_eq rowAt_setRow_same rowAt_setRow_other isRow_drew rowAt_drew size_setRow_ Lb_size Lb_at blk_ptr aggOf_agg below_alloc_r below_setCell_r below_setRow_r below_drew_r le_add_r RC_size RC_get0 RC_at0 RC_set0 RC_get1 RC_at1 RC_set1 RC_get2 RC_at2 RC_set2 RC_get3 RC_at3 RC_set3 RC_get4 RC_at4 RC_set4 RC_get5 RC_at5 RC_set5 zeroF RC_ext RC_spl RC_one offv_ptr one_lad zero_lad allOne_nil allOne_cons Value.oneCell' zero_rc zero_rc2
attribute [local go_sem ↓] loadF storeF loadA storeA loadM storeM
def TkA (m p0 p1 : Int) (o0 o1 : Bool) (a b pr gr : Int) (is : Bool) (gp : Int) : Int := if takeB m p0 p1 o0 o1 a b pr gr is gp then setA .or a gp (levP p0 p1 pr gp) else a
def TkB (m p0 p1 : Int) (o0 o1 : Bool) (a b pr gr : Int) (is : Bool) (gp : Int) : Int := if takeB m p0 p1 o0 o1 a b pr gr is gp then setB .or b gp (levP p0 p1 pr gp) else b
set_option maxRecDepth 100000 in
set_option maxHeartbeats 4000000 in
theorem rTake_c (m p0 p1 : Int) (o0 o1 sp : Bool) (a b : Int) (id pr gr : Int) (is : Bool) (gp : Int) (w : World) : Calls Try.prog 92 #[.agg (RC m p0 p1 o0 o1 sp (rb a b)), .agg #[.int .i64 id, .int .i64 pr, .int .i64 gr, .bool is], .int .i64 gp] w fun e w' =>
    e = .returned (.tuple #[.agg (RC m p0 p1 o0 o1 sp (rb (TkA m p0 p1 o0 o1 a b pr gr is gp) (TkB m p0 p1 o0 o1 a b pr gr is gp))), .int .i64 (if takeB m p0 p1 o0 o1 a b pr gr is gp then id else 1023), .bool (takeB m p0 p1 o0 o1 a b pr gr is gp)]) ∧ Below w.heap.size w w' := by
  have HMAY := Lib.hid (fun W : World => rMay_c m p0 p1 o0 o1 sp a b id pr gr is W)
  by_cases hg : gr = gp
  · subst hg
    cases hm : mayP m p0 p1 o0 o1 a b pr gr is with
    | false =>
      have ht : takeB m p0 p1 o0 o1 a b pr gr is gr = false := by unfold takeB; rw [hm]; rfl
      rw [hm] at HMAY
      unfold TkA TkB
      rw [ht]
      simp only [Bool.false_eq_true, if_false]
      clear ht hm
      generalize rb a b = f at *
      have hB0 : Below w.heap.size w (((w.alloc (.cells (RC m p0 p1 o0 o1 sp f) 107)).alloc (.cells #[.int .i64 id, .int .i64 pr, .int .i64 gr, .bool is] 47)).alloc (.cells (RC 0 0 0 false false false fun _ => false) 107)) := (((Below.refl _ w).alloc (Nat.le_refl _) _).alloc (by simp) _).alloc (by simp; omega) _
      obtain ⟨R0, R0'⟩ : Row (((w.alloc (.cells (RC m p0 p1 o0 o1 sp f) 107)).alloc (.cells #[.int .i64 id, .int .i64 pr, .int .i64 gr, .bool is] 47)).alloc (.cells (RC 0 0 0 false false false fun _ => false) 107)) w.heap.size (RC m p0 p1 o0 o1 sp f) := Row.of (((BoxN.new w 107 (RC m p0 p1 o0 o1 sp f)).alloc _).alloc _)
      obtain ⟨R1, R1'⟩ : Row (((w.alloc (.cells (RC m p0 p1 o0 o1 sp f) 107)).alloc (.cells #[.int .i64 id, .int .i64 pr, .int .i64 gr, .bool is] 47)).alloc (.cells (RC 0 0 0 false false false fun _ => false) 107)) (w.heap.size + 1) #[.int .i64 id, .int .i64 pr, .int .i64 gr, .bool is] := by (have this := BoxN.new (w.alloc (.cells (RC m p0 p1 o0 o1 sp f) 107)) 47 #[.int .i64 id, .int .i64 pr, .int .i64 gr, .bool is]; rw [World.size_alloc] at this; exact Row.of (this.alloc _))
      obtain ⟨R2, R2'⟩ : Row (((w.alloc (.cells (RC m p0 p1 o0 o1 sp f) 107)).alloc (.cells #[.int .i64 id, .int .i64 pr, .int .i64 gr, .bool is] 47)).alloc (.cells (RC 0 0 0 false false false fun _ => false) 107)) (w.heap.size + 2) (RC 0 0 0 false false false fun _ => false) := by
        have := Row.new ((w.alloc (.cells (RC m p0 p1 o0 o1 sp f) 107)).alloc (.cells #[.int .i64 id, .int .i64 pr, .int .i64 gr, .bool is] 47)) 107 (RC 0 0 0 false false false fun _ => false); simpa using this
      have hz := hB0.size
      go_enter Try.func92, Try.ntmps92
      go_wp2_with (go_at_call 100; refine (HMAY.out _).mono ?_; rintro e w1 ⟨rfl, hb1⟩; obtain ⟨Q0, Q0'⟩ := Row.step R0 R0' hb1; obtain ⟨Q2, Q2'⟩ := Row.step R2 R2' hb1; have hB1 := bk hB0 hz hb1)
      first | exact bodyPost_ret (resF3 rfl _ rfl (Row.setRow Q2) RC_size rfl rfl) rfl ⟨rfl, below_setRow hB1 (by omega) _⟩ | exact bodyPost_ret (resF3 rfl _ rfl (Row.setRow R2) RC_size rfl rfl) rfl ⟨rfl, below_setRow hB0 (by omega) _⟩
    | true =>
      have ht : takeB m p0 p1 o0 o1 a b pr gr is gr = true := by unfold takeB; rw [hm]; simp
      rw [hm] at HMAY
      unfold TkA TkB
      rw [ht]
      simp only [if_true]
      have HBI := Lib.hid (fun W : World => rbits_c m p0 p1 o0 o1 sp a b gr W)
      have HSE := Lib.hid (show ∀ W : World, Calls Try.prog 101 #[.agg (Lb (rb a b)), .int .i64 gr, .int .i64 (bits .and .i64 pr (maskP (gr % 2) (ptP p0 p1 gr))), .bool true] W fun e w' => e = .returned (.agg (Lb (rb (setA .or a gr (levP p0 p1 pr gr)) (setB .or b gr (levP p0 p1 pr gr))))) ∧ Below W.heap.size W w' from fun W => by
        have := rSet_c (rb a b) gr (levP p0 p1 pr gr) true W
        rw [Lb_push] at this
        exact this)
      clear ht hm
      generalize rb (setA .or a gr (levP p0 p1 pr gr)) (setB .or b gr (levP p0 p1 pr gr)) = f' at *
      generalize maskP (gr % 2) (ptP p0 p1 gr) = mk at *
      generalize rb a b = f at *
      have hB0 : Below w.heap.size w (((w.alloc (.cells (RC m p0 p1 o0 o1 sp f) 107)).alloc (.cells #[.int .i64 id, .int .i64 pr, .int .i64 gr, .bool is] 47)).alloc (.cells (RC 0 0 0 false false false fun _ => false) 107)) := (((Below.refl _ w).alloc (Nat.le_refl _) _).alloc (by simp) _).alloc (by simp; omega) _
      obtain ⟨R0, R0'⟩ : Row (((w.alloc (.cells (RC m p0 p1 o0 o1 sp f) 107)).alloc (.cells #[.int .i64 id, .int .i64 pr, .int .i64 gr, .bool is] 47)).alloc (.cells (RC 0 0 0 false false false fun _ => false) 107)) w.heap.size (RC m p0 p1 o0 o1 sp f) := Row.of (((BoxN.new w 107 (RC m p0 p1 o0 o1 sp f)).alloc _).alloc _)
      obtain ⟨R1, R1'⟩ : Row (((w.alloc (.cells (RC m p0 p1 o0 o1 sp f) 107)).alloc (.cells #[.int .i64 id, .int .i64 pr, .int .i64 gr, .bool is] 47)).alloc (.cells (RC 0 0 0 false false false fun _ => false) 107)) (w.heap.size + 1) #[.int .i64 id, .int .i64 pr, .int .i64 gr, .bool is] := by (have this := BoxN.new (w.alloc (.cells (RC m p0 p1 o0 o1 sp f) 107)) 47 #[.int .i64 id, .int .i64 pr, .int .i64 gr, .bool is]; rw [World.size_alloc] at this; exact Row.of (this.alloc _))
      obtain ⟨R2, R2'⟩ : Row (((w.alloc (.cells (RC m p0 p1 o0 o1 sp f) 107)).alloc (.cells #[.int .i64 id, .int .i64 pr, .int .i64 gr, .bool is] 47)).alloc (.cells (RC 0 0 0 false false false fun _ => false) 107)) (w.heap.size + 2) (RC 0 0 0 false false false fun _ => false) := by
        have := Row.new ((w.alloc (.cells (RC m p0 p1 o0 o1 sp f) 107)).alloc (.cells #[.int .i64 id, .int .i64 pr, .int .i64 gr, .bool is] 47)) 107 (RC 0 0 0 false false false fun _ => false); simpa using this
      have hz := hB0.size
      go_enter Try.func92, Try.ntmps92
      go_wp2_with (go_at_call 100; refine (HMAY.out _).mono ?_; rintro e w1 ⟨rfl, hb1⟩; obtain ⟨Q0, Q0'⟩ := Row.step R0 R0' hb1; obtain ⟨Q1, Q1'⟩ := Row.step R1 R1' hb1; obtain ⟨Q2, Q2'⟩ := Row.step R2 R2' hb1; have hB1 := bk hB0 hz hb1)
      have n0 : ¬ w.heap.size = w1.heap.size := by have := Q0.lt; omega
      have n1 : ¬ w.heap.size + 1 = w1.heap.size := by have := Q1.lt; omega
      have n2 : ¬ w.heap.size + 2 = w1.heap.size := by have := Q2.lt; omega
      have S0 : isRow ((w1.alloc (.cells (RC 0 0 0 false false false fun _ => false) 107)).setRow w1.heap.size (RC m p0 p1 o0 o1 sp f)) w.heap.size := by go_simp
      have S0' : rowAt ((w1.alloc (.cells (RC 0 0 0 false false false fun _ => false) 107)).setRow w1.heap.size (RC m p0 p1 o0 o1 sp f)) w.heap.size = RC m p0 p1 o0 o1 sp f := by go_simp
      have S1 : isRow ((w1.alloc (.cells (RC 0 0 0 false false false fun _ => false) 107)).setRow w1.heap.size (RC m p0 p1 o0 o1 sp f)) (w.heap.size + 1) := by go_simp
      have S1' : rowAt ((w1.alloc (.cells (RC 0 0 0 false false false fun _ => false) 107)).setRow w1.heap.size (RC m p0 p1 o0 o1 sp f)) (w.heap.size + 1) = #[.int .i64 id, .int .i64 pr, .int .i64 gr, .bool is] := by go_simp
      have S2 : isRow ((w1.alloc (.cells (RC 0 0 0 false false false fun _ => false) 107)).setRow w1.heap.size (RC m p0 p1 o0 o1 sp f)) (w.heap.size + 2) := by go_simp
      have S2' : rowAt ((w1.alloc (.cells (RC 0 0 0 false false false fun _ => false) 107)).setRow w1.heap.size (RC m p0 p1 o0 o1 sp f)) (w.heap.size + 2) = RC 0 0 0 false false false fun _ => false := by go_simp
      have S3 : isRow ((w1.alloc (.cells (RC 0 0 0 false false false fun _ => false) 107)).setRow w1.heap.size (RC m p0 p1 o0 o1 sp f)) w1.heap.size := by go_simp
      have S3' : rowAt ((w1.alloc (.cells (RC 0 0 0 false false false fun _ => false) 107)).setRow w1.heap.size (RC m p0 p1 o0 o1 sp f)) w1.heap.size = RC m p0 p1 o0 o1 sp f := by go_simp
      have hB2 : Below w.heap.size w ((w1.alloc (.cells (RC 0 0 0 false false false fun _ => false) 107)).setRow w1.heap.size (RC m p0 p1 o0 o1 sp f)) := below_setRow (hB1.alloc hB1.size _) hB1.size _
      generalize (w1.alloc (.cells (RC 0 0 0 false false false fun _ => false) 107)).setRow w1.heap.size (RC m p0 p1 o0 o1 sp f) = V at *
      have hg9 : w.heap.size ≤ w1.heap.size := hB1.size
      generalize w1.heap.size = g9 at *
      clear Q0 Q0' Q1 Q1' Q2 Q2' R0 R0' R1 R1' R2 R2' hb1 hB0 hB1 hz
      (first | go_region_held3 (fun w' => isRow w' w.heap.size ∧ rowAt w' w.heap.size = RC m p0 p1 o0 o1 sp f ∧ isRow w' (w.heap.size + 1) ∧ rowAt w' (w.heap.size + 1) = #[.int .i64 id, .int .i64 pr, .int .i64 gr, .bool is] ∧ isRow w' (w.heap.size + 2) ∧ rowAt w' (w.heap.size + 2) = (RC 0 0 0 false false false fun _ => false) ∧ isRow w' g9 ∧ (rowAt w' g9).size = 70 ∧ spl (rowAt w' g9) 6 (Lb f') = RC m p0 p1 o0 o1 sp f' ∧ Below w.heap.size w w') (first | exact ⟨S0, S0', S1, S1', S2, S2', S3, (congrArg Array.size S3').trans RC_size, (congrArg (fun x => spl x 6 (Lb f')) S3').trans RC_spl, below_drew0 hB2⟩ | (go_split_ands; exact ⟨rk1 (by assumption) hb, rk2 (by assumption) (by assumption) hb, rk1 (by assumption) hb, rk2 (by assumption) (by assumption) hb, rk1 (by assumption) hb, rk2 (by assumption) (by assumption) hb, rk1 (by assumption) hb, by rw [rk3 (by assumption) hb]; assumption, by rw [rk3 (by assumption) hb]; assumption, bk (by assumption) (Below.size (by assumption)) hb⟩) | (go_split_ands; refine ⟨?_, ?_, ?_, ?_, ?_, ?_, ?_, ?_, ?_, ?_⟩ <;> go_simp)) (first | (go_at_call 102; (with_reducible refine (HBI.out _).mono ?_); rintro e w2 ⟨rfl, hb⟩) | (go_at_call 101; (with_reducible refine (HSE.out _).mono ?_); rintro e w3 ⟨rfl, hb⟩)) | fail)
      go_split_ands
      have T0 : isRow (w3.setRow g9 (RC m p0 p1 o0 o1 sp f')) g9 := by assumption
      have T0' : rowAt (w3.setRow g9 (RC m p0 p1 o0 o1 sp f')) g9 = RC m p0 p1 o0 o1 sp f' := rowAt_setRow_same (by rwa [isRow_setRow_eq] at T0)
      have T1 : isRow (w3.setRow g9 (RC m p0 p1 o0 o1 sp f')) (w.heap.size + 1) := by assumption
      have T1' : rowAt (w3.setRow g9 (RC m p0 p1 o0 o1 sp f')) (w.heap.size + 1) = #[.int .i64 id, .int .i64 pr, .int .i64 gr, .bool is] := by assumption
      have T2 : isRow (w3.setRow g9 (RC m p0 p1 o0 o1 sp f')) (w.heap.size + 2) := by assumption
      have T2' : rowAt (w3.setRow g9 (RC m p0 p1 o0 o1 sp f')) (w.heap.size + 2) = (RC 0 0 0 false false false fun _ => false) := by assumption
      have hB5 : Below w.heap.size w (w3.setRow g9 (RC m p0 p1 o0 o1 sp f')) := by assumption
      generalize w3.setRow g9 (RC m p0 p1 o0 o1 sp f') = V5 at *
      clear S0 S0' S1 S1' S2 S2' S3 S3' hB2
      have n3 : ¬ g9 = w.heap.size + 2 := fun e => n2 e.symm
      go_wp2_with fail
      (first | go_region_held3 (fun w' => isRow w' g9 ∧ rowAt w' g9 = RC m p0 p1 o0 o1 sp f' ∧ isRow w' (w.heap.size + 1) ∧ rowAt w' (w.heap.size + 1) = #[.int .i64 id, .int .i64 pr, .int .i64 gr, .bool is] ∧ isRow w' (w.heap.size + 2) ∧ (rowAt w' (w.heap.size + 2)).size = 70 ∧ Below w.heap.size w w') (first | exact ⟨T0, T0', T1, T1', T2, (congrArg Array.size T2').trans RC_size, below_drew0 hB5⟩ | (go_split_ands; refine ⟨?_, ?_, ?_, ?_, ?_, ?_, ?_⟩ <;> go_simp)) (fail) | fail)
      all_goals
        go_split_ands
        go_wp2_with fail
        exact bodyPost_ret (resF3 rfl _ rfl ⟨by assumption, rowAt_setRow_same (isRow_setRow_eq.mp (by assumption))⟩ RC_size rfl rfl) rfl ⟨rfl, by assumption⟩
  · have ht : takeB m p0 p1 o0 o1 a b pr gr is gp = false := by unfold takeB; simp [hg]
    have hg' : (gr != gp) = true := by simp [bne, hg]
    unfold TkA TkB
    rw [ht]
    simp only [Bool.false_eq_true, if_false]
    clear ht hg
    generalize rb a b = f at *
    have hB0 : Below w.heap.size w (((w.alloc (.cells (RC m p0 p1 o0 o1 sp f) 107)).alloc (.cells #[.int .i64 id, .int .i64 pr, .int .i64 gr, .bool is] 47)).alloc (.cells (RC 0 0 0 false false false fun _ => false) 107)) := (((Below.refl _ w).alloc (Nat.le_refl _) _).alloc (by simp) _).alloc (by simp; omega) _
    obtain ⟨R0, R0'⟩ : Row (((w.alloc (.cells (RC m p0 p1 o0 o1 sp f) 107)).alloc (.cells #[.int .i64 id, .int .i64 pr, .int .i64 gr, .bool is] 47)).alloc (.cells (RC 0 0 0 false false false fun _ => false) 107)) w.heap.size (RC m p0 p1 o0 o1 sp f) := Row.of (((BoxN.new w 107 (RC m p0 p1 o0 o1 sp f)).alloc _).alloc _)
    obtain ⟨R1, R1'⟩ : Row (((w.alloc (.cells (RC m p0 p1 o0 o1 sp f) 107)).alloc (.cells #[.int .i64 id, .int .i64 pr, .int .i64 gr, .bool is] 47)).alloc (.cells (RC 0 0 0 false false false fun _ => false) 107)) (w.heap.size + 1) #[.int .i64 id, .int .i64 pr, .int .i64 gr, .bool is] := by (have this := BoxN.new (w.alloc (.cells (RC m p0 p1 o0 o1 sp f) 107)) 47 #[.int .i64 id, .int .i64 pr, .int .i64 gr, .bool is]; rw [World.size_alloc] at this; exact Row.of (this.alloc _))
    obtain ⟨R2, R2'⟩ : Row (((w.alloc (.cells (RC m p0 p1 o0 o1 sp f) 107)).alloc (.cells #[.int .i64 id, .int .i64 pr, .int .i64 gr, .bool is] 47)).alloc (.cells (RC 0 0 0 false false false fun _ => false) 107)) (w.heap.size + 2) (RC 0 0 0 false false false fun _ => false) := by
      have := Row.new ((w.alloc (.cells (RC m p0 p1 o0 o1 sp f) 107)).alloc (.cells #[.int .i64 id, .int .i64 pr, .int .i64 gr, .bool is] 47)) 107 (RC 0 0 0 false false false fun _ => false); simpa using this
    have hz := hB0.size
    go_enter Try.func92, Try.ntmps92
    go_wp2_with (go_at_call 100; refine (HMAY.out _).mono ?_; rintro e w1 ⟨rfl, hb1⟩; obtain ⟨Q0, Q0'⟩ := Row.step R0 R0' hb1; obtain ⟨Q2, Q2'⟩ := Row.step R2 R2' hb1; have hB1 := bk hB0 hz hb1)
    first | exact bodyPost_ret (resF3 rfl _ rfl (Row.setRow Q2) RC_size rfl rfl) rfl ⟨rfl, below_setRow hB1 (by omega) _⟩ | exact bodyPost_ret (resF3 rfl _ rfl (Row.setRow R2) RC_size rfl rfl) rfl ⟨rfl, below_setRow hB0 (by omega) _⟩
end Go.Proofs.Ytkbaghblchlcnaa
namespace Go.Proofs.Ytkbaghblchlcnaa.Lr
open Go.RowKit Go.Shelf Go.Proofs.YtkbaghblchlcnaaW.PrintWords Go.Proofs.Ytkbaghblchlcnaa.IAll
def best (xs : List S54) : Cand := bestOf xs (places pWaits xs)
theorem best_mem (xs : List S54) (ks : List Int) : (bestOf xs ks).is = true → ∃ x ∈ ks, bestOf xs ks = ⟨(rd_T54 xs x).f1, (rd_T54 xs x).f2, (rd_T54 xs x).f3, true⟩ := by
  unfold bestOf
  suffices h : ∀ c : Cand, (c.is = true → ∃ x ∈ ks, c = ⟨(rd_T54 xs x).f1, (rd_T54 xs x).f2, (rd_T54 xs x).f3, true⟩) ∨ True → True from by
    clear h
    have key : ∀ (l : List Int) (c : Cand) (P : List Int), (c.is = true → ∃ x ∈ P, c = ⟨(rd_T54 xs x).f1, (rd_T54 xs x).f2, (rd_T54 xs x).f3, true⟩) →
        ((l.foldl (bestStep xs) c).is = true → ∃ x ∈ P ++ l, l.foldl (bestStep xs) c = ⟨(rd_T54 xs x).f1, (rd_T54 xs x).f2, (rd_T54 xs x).f3, true⟩) := by
      intro l
      induction l with
      | nil => intro c P h; simpa using h
      | cons k l ih =>
        intro c P h
        have := ih (bestStep xs c k) (P ++ [k]) (by
          intro hi
          unfold bestStep at hi ⊢
          split
          · exact ⟨k, by simp, rfl⟩
          · rename_i hn
            rw [if_neg hn] at hi
            obtain ⟨x, hx, e⟩ := h hi
            exact ⟨x, by simp [hx], e⟩)
        simpa using this
    have := key ks Cand.zero [] (by intro h; exact absurd h (by decide))
    simpa using this
  exact fun _ _ => trivial
theorem best_find (xs : List S54) (h : (best xs).is = true) : ∃ k : Nat, findOf xs (best xs).id = (k : Int) ∧ k < xs.length := by
  obtain ⟨x, hx, e⟩ := best_mem xs _ h
  obtain ⟨h0, h1, h2⟩ := pl_mem pWaits xs xs.length x hx
  obtain ⟨q, rfl⟩ := Int.eq_ofNat_of_zero_le h0
  have hid : (best xs).id = (rd_T54 xs q).f1 := by unfold best; rw [e]
  rcases find_range xs (best xs).id with hf | ⟨k, hf, hk, _⟩
  · exfalso
    have hp : pFind (best xs).id (rd_T54 xs q) = true := by
      unfold pWaits at h2
      unfold pFind
      have : (rd_T54 xs q).f0 = 1 := by simpa using h2
      rw [hid, this]; simp
    obtain ⟨post, hpl⟩ := places_at (pFind (best xs).id) xs q (by omega) hp
    have hall := pl_mem (pFind (best xs).id) xs xs.length
    unfold findOf at hf
    cases hL : places (pFind (best xs).id) xs with
    | nil => rw [hL] at hpl; simp at hpl
    | cons y l =>
      rw [hL] at hf
      have := hall y (by rw [show pl (pFind (best xs).id) xs xs.length = y :: l from hL]; exact List.mem_cons_self)
      have hy : y = -1 := hf
      omega
  · exact ⟨k, hf, hk⟩
section
variable (m p0 p1 : Int) (o0 o1 : Bool) (a b : Int) (xs : List S54) (gp : Int)
def ackT : Bool := takeB m p0 p1 o0 o1 a b (best xs).pr (best xs).gr (best xs).is gp
def ackId : Int := if ackT m p0 p1 o0 o1 a b xs gp then (best xs).id else 1023
def ackXs : List S54 := if ackT m p0 p1 o0 o1 a b xs gp then setSt xs (findOf xs (best xs).id).toNat (if 8192 ≤ (best xs).id then 0 else 2) else xs
def ackA : Int := if ackT m p0 p1 o0 o1 a b xs gp then setA .or a gp (levP p0 p1 (best xs).pr gp) else a
def ackB : Int := if ackT m p0 p1 o0 o1 a b xs gp then setB .or b gp (levP p0 p1 (best xs).pr gp) else b
theorem ackT_is (h : ackT m p0 p1 o0 o1 a b xs gp = true) : (best xs).is = true := by
  unfold ackT takeB mayP at h
  simp only [Bool.and_eq_true] at h
  exact h.1.1.1.1
end
theorem FA_set2 (xs : List S54) (k : Nat) (hk : k < xs.length) : ((FA xs).setIfInBounds (k * 7) (.int .i64 2)).setIfInBounds (k * 7) (.int .i64 0) = FA (setSt xs k 0) := by
  rw [Array.setIfInBounds_setIfInBounds, FA_set xs k 0 hk]
theorem rack_c (g bl : Nat) (m p0 p1 : Int) (o0 o1 sp : Bool) (a b : Int) (xs : List S54) (hx : xs.length ≤ 16) (lost gp : Int) (hne : ¬ g = bl) (w : World)
    (hr : isRow w g) (hr' : rowAt w g = RV (RC m p0 p1 o0 o1 sp (rb a b)) (.slice (some ⟨bl, 0, none⟩) xs.length xs.length) (.int .i64 lost)) (hl : isRow w bl) (hl' : rowAt w bl = FA xs) :
    Calls Try.prog 84 #[.pointer (some ⟨g, 0, none⟩), .int .i64 gp] w fun e w' => e = .returned (.int .i64 (ackId m p0 p1 o0 o1 a b xs gp)) ∧
      Row w' g (RV (RC m p0 p1 o0 o1 sp (rb (ackA m p0 p1 o0 o1 a b xs gp) (ackB m p0 p1 o0 o1 a b xs gp))) (.slice (some ⟨bl, 0, none⟩) xs.length xs.length) (.int .i64 lost)) ∧ Row w' bl (FA (ackXs m p0 p1 o0 o1 a b xs gp)) ∧ Aside2 g bl w w' := by
  have hne' : ¬ bl = g := fun e => hne e.symm
  have HB := Lib.hid (fun (W' : World) (h : isRow W' bl) (h' : rowAt W' bl = FA xs) => rbest hx h h')
  have HT := Lib.hid (fun (W : World) => rTake_c m p0 p1 o0 o1 sp a b (best xs).id (best xs).pr (best xs).gr (best xs).is gp W)
  have HF := Lib.hid (fun (W : World) (h : isRow W bl) (h' : rowAt W bl = FA xs) => rfind hx h h' (best xs).id)
  have hTd : takeB m p0 p1 o0 o1 a b (best xs).pr (best xs).gr (best xs).is gp = ackT m p0 p1 o0 o1 a b xs gp := rfl
  unfold TkA TkB at HT
  rw [hTd] at HT
  unfold ackId ackXs ackA ackB
  cases hT : ackT m p0 p1 o0 o1 a b xs gp with
  | false =>
    rw [hT] at HT
    simp only [Bool.false_eq_true, if_false] at HT ⊢
    exact rack_no g bl _ _ RC_size RC_size RC_one xs.length (FA xs) lost (best xs).id (best xs).pr (best xs).gr (best xs).is gp w hr hr' hl hl' hne hne' HB HT
  | true =>
    rw [hT] at HT
    simp only [if_true] at HT ⊢
    obtain ⟨k, hf, hk⟩ := best_find xs (ackT_is m p0 p1 o0 o1 a b xs gp hT)
    rw [hf] at HF
    rw [hf, Int.toNat_natCast]
    have c0 := (FA_gets xs k hk).1
    by_cases hid : 8192 ≤ (best xs).id
    · rw [if_pos hid, ← FA_set2 xs k hk]
      exact rack_hi g bl _ _ RC_size RC_size RC_one xs.length (FA xs) lost (best xs).id (best xs).pr (best xs).gr (best xs).is gp w hr hr' hl hl' hne hne' k hk hid _ c0 HF HB HT
    · rw [if_neg hid, ← FA_set xs k 2 hk]
      exact rack_lo g bl _ _ RC_size RC_size RC_one xs.length (FA xs) lost (best xs).id (best xs).pr (best xs).gr (best xs).is gp w hr hr' hl hl' hne hne' k hk hid _ c0 HF HB HT
end Go.Proofs.Ytkbaghblchlcnaa.Lr
namespace Go.Proofs.Ytkbaghblchlcnaa.Lr
open Go.RowKit Go.Shelf Go.Proofs.YtkbaghblchlcnaaW.PrintWords Go.Proofs.Ytkbaghblchlcnaa.IAll
attribute [local go_sem] Oper.semAt_some cell_row frozen_row isRow_setCell_eq rowAt_setCell_same rowAt_setCell_other isRow_alloc_eq rowAt_alloc rowAt_new rowAt_new' isRow_setRow_eq rowAt_setRow_same rowAt_setRow_other isRow_drew rowAt_drew size_setRow_ Lb_size Lb_at blk_ptr aggOf_agg below_alloc_e below_setCell_e below_setRow_e below_refl_e below_drew_r aside2_alloc_e aside2_setCell_e aside2_setRow_e aside2_drew_e aside2_refl_e aside2_drewN_e isRow_drewN rowAt_drewN below_drewN_e le_add_r offv_ptr one_lad zero_lad allOne_nil allOne_cons Value.oneCell' addr_at FA_size one_FA RV_size RV_get70 RV_get71 RV_at70 RV_at71 RV_at5 RV_low RV_set71 RV_ext RV_spl RC_size zeroF zero_rc zero_rc2 RC_one
attribute [local go_sem ↓] storeI storeC storeE loadF0 storeF0 loadF storeF
attribute [local go_sem] eq2i eq2b eq2u
set_option maxRecDepth 100000 in
set_option maxHeartbeats 2000000 in
theorem reoi_1 (g bl : Nat) (R : Array Value) (n : Nat) (C : Array Value) (lost gp id : Int) (w : World) (hr : isRow w g) (hr' : rowAt w g = (RV R (.slice (some ⟨bl, 0, none⟩) n n) (.int .i64 lost))) (hl : isRow w bl) (hl' : rowAt w bl = C) (hne : ¬ g = bl) (hne' : ¬ bl = g) (HR : Hid (∀ W : World, Calls Try.prog 30 #[.int .i64 id] W fun e w' => e = .returned (.bool false) ∧ Below W.heap.size W w')) :
    Calls Try.prog 87 #[.pointer (some ⟨g, 0, none⟩), .int .i64 gp, .int .i64 id] w fun e w' => e = .returned (.tuple #[.bool false, .int .i64 (-1)]) ∧ Row w' g (RV R (.slice (some ⟨bl, 0, none⟩) n n) (.int .i64 lost)) ∧ Row w' bl C ∧ Aside2 g bl w w' := by
  have _u : True := by have _ := hne; have _ := hne'; trivial
  clear _u
  have hX : Aside2 g bl w w := .of_below (Below.refl _ _)
  have lr := hr.lt
  have ll := hl.lt
  have nr : ¬ g = w.heap.size := by omega
  have rn : ¬ w.heap.size = g := by omega
  have nl : ¬ bl = w.heap.size := by omega
  have ln : ¬ w.heap.size = bl := by omega
  have hB_0 : Below w.heap.size w w := Below.refl _ _
  go_enter Try.func87, Try.ntmps87
  go_wp2_with fail
  refine (HR.out _).mono ?_
  rintro e v1 ⟨rfl, hb1⟩
  obtain ⟨V_1, V_1'⟩ : Row v1 g (RV R (.slice (some ⟨bl, 0, none⟩) n n) (.int .i64 lost)) := Row.step (by go_simp) (by go_simp) hb1
  obtain ⟨L_1, L_1'⟩ : Row v1 bl C := Row.step (by go_simp) (by go_simp) hb1
  have hB_1 : Aside2 g bl w v1 := Aside2.low (by go_simp) hb1
  clear hr hr' hl hl' hX hb1
  have hz_1 : w.heap.size ≤ v1.heap.size := hB_1.size
  have hl_V_1 := isRow.lt V_1
  have ne_V_1_0 : ¬ g = v1.heap.size := by omega
  have en_V_1_0 : ¬ v1.heap.size = g := by omega
  have hl_L_1 := isRow.lt L_1
  have ne_L_1_0 : ¬ bl = v1.heap.size := by omega
  have en_L_1_0 : ¬ v1.heap.size = bl := by omega
  go_wp2
  go_ret2
  exact ⟨rfl, ⟨by go_simp, by go_simp⟩, ⟨by go_simp, by go_simp⟩, by go_simp⟩
set_option maxRecDepth 100000 in
set_option maxHeartbeats 2000000 in
theorem reoi_2 (g bl : Nat) (R R' : Array Value) (hR : R.size = 70) (n : Nat) (C : Array Value) (lost gp id : Int) (w : World) (hr : isRow w g) (hr' : rowAt w g = (RV R (.slice (some ⟨bl, 0, none⟩) n n) (.int .i64 lost))) (hl : isRow w bl) (hl' : rowAt w bl = C) (hne : ¬ g = bl) (hne' : ¬ bl = g) (hR' : R'.size = 70) (hO : AllOne R') (HR : Hid (∀ W : World, Calls Try.prog 30 #[.int .i64 id] W fun e w' => e = .returned (.bool true) ∧ Below W.heap.size W w')) (HD : Hid (∀ W : World, Calls Try.prog 96 #[.agg R, .int .i64 gp] W fun e w' => e = .returned (.tuple #[.agg R', .bool false]) ∧ Below W.heap.size W w')) :
    Calls Try.prog 87 #[.pointer (some ⟨g, 0, none⟩), .int .i64 gp, .int .i64 id] w fun e w' => e = .returned (.tuple #[.bool false, .int .i64 (-1)]) ∧ Row w' g (RV R' (.slice (some ⟨bl, 0, none⟩) n n) (.int .i64 lost)) ∧ Row w' bl C ∧ Aside2 g bl w w' := by
  have _u : True := by have _ := hne; have _ := hne'; trivial
  clear _u
  have hX : Aside2 g bl w w := .of_below (Below.refl _ _)
  have lr := hr.lt
  have ll := hl.lt
  have nr : ¬ g = w.heap.size := by omega
  have rn : ¬ w.heap.size = g := by omega
  have nl : ¬ bl = w.heap.size := by omega
  have ln : ¬ w.heap.size = bl := by omega
  have hB_0 : Below w.heap.size w w := Below.refl _ _
  go_enter Try.func87, Try.ntmps87
  go_wp2_with fail
  refine (HR.out _).mono ?_
  rintro e v1 ⟨rfl, hb1⟩
  obtain ⟨V_1, V_1'⟩ : Row v1 g (RV R (.slice (some ⟨bl, 0, none⟩) n n) (.int .i64 lost)) := Row.step (by go_simp) (by go_simp) hb1
  obtain ⟨L_1, L_1'⟩ : Row v1 bl C := Row.step (by go_simp) (by go_simp) hb1
  have hB_1 : Aside2 g bl w v1 := Aside2.low (by go_simp) hb1
  clear hr hr' hl hl' hX hb1
  have hz_1 : w.heap.size ≤ v1.heap.size := hB_1.size
  have hl_V_1 := isRow.lt V_1
  have ne_V_1_0 : ¬ g = v1.heap.size := by omega
  have en_V_1_0 : ¬ v1.heap.size = g := by omega
  have hl_L_1 := isRow.lt L_1
  have ne_L_1_0 : ¬ bl = v1.heap.size := by omega
  have en_L_1_0 : ¬ v1.heap.size = bl := by omega
  go_wp2_with fail
  refine (HD.out _).mono ?_
  rintro e v2 ⟨rfl, hb2⟩
  obtain ⟨V_2, V_2'⟩ : Row v2 g (RV R (.slice (some ⟨bl, 0, none⟩) n n) (.int .i64 lost)) := Row.step (by go_simp) (by go_simp) hb2
  obtain ⟨L_2, L_2'⟩ : Row v2 bl C := Row.step (by go_simp) (by go_simp) hb2
  have hB_2 : Aside2 g bl w v2 := Aside2.low (by go_simp) hb2
  clear V_1 V_1' L_1 L_1' hB_1 hb2
  have hz_2 : w.heap.size ≤ v2.heap.size := hB_2.size
  have hl_V_2 := isRow.lt V_2
  have ne_V_2_0 : ¬ g = v2.heap.size := by omega
  have en_V_2_0 : ¬ v2.heap.size = g := by omega
  have hl_L_2 := isRow.lt L_2
  have ne_L_2_0 : ¬ bl = v2.heap.size := by omega
  have en_L_2_0 : ¬ v2.heap.size = bl := by omega
  have ne_V_X : ¬ g = v2.heap.size := by omega
  have en_V_X : ¬ v2.heap.size = g := by omega
  have ne_L_X : ¬ bl = v2.heap.size := by omega
  have en_L_X : ¬ v2.heap.size = bl := by omega
  go_wp2
  go_ret2
  exact ⟨rfl, ⟨by go_simp, by go_simp⟩, ⟨by go_simp, by go_simp⟩, by go_simp⟩
set_option maxRecDepth 100000 in
set_option maxHeartbeats 2000000 in
theorem reoi_3 (g bl : Nat) (R R' : Array Value) (hR : R.size = 70) (n : Nat) (C : Array Value) (lost gp id : Int) (w : World) (hr : isRow w g) (hr' : rowAt w g = (RV R (.slice (some ⟨bl, 0, none⟩) n n) (.int .i64 lost))) (hl : isRow w bl) (hl' : rowAt w bl = C) (hne : ¬ g = bl) (hne' : ¬ bl = g) (hR' : R'.size = 70) (hO : AllOne R') (hsp : ∀ q : 5 < R'.size, R'[5] = .bool true) (HR : Hid (∀ W : World, Calls Try.prog 30 #[.int .i64 id] W fun e w' => e = .returned (.bool true) ∧ Below W.heap.size W w')) (HD : Hid (∀ W : World, Calls Try.prog 96 #[.agg R, .int .i64 gp] W fun e w' => e = .returned (.tuple #[.agg R', .bool true]) ∧ Below W.heap.size W w')) :
    Calls Try.prog 87 #[.pointer (some ⟨g, 0, none⟩), .int .i64 gp, .int .i64 id] w fun e w' => e = .returned (.tuple #[.bool false, .int .i64 (-1)]) ∧ Row w' g (RV R' (.slice (some ⟨bl, 0, none⟩) n n) (.int .i64 lost)) ∧ Row w' bl C ∧ Aside2 g bl w w' := by
  have _u : True := by have _ := hne; have _ := hne'; trivial
  clear _u
  have hX : Aside2 g bl w w := .of_below (Below.refl _ _)
  have lr := hr.lt
  have ll := hl.lt
  have nr : ¬ g = w.heap.size := by omega
  have rn : ¬ w.heap.size = g := by omega
  have nl : ¬ bl = w.heap.size := by omega
  have ln : ¬ w.heap.size = bl := by omega
  have hB_0 : Below w.heap.size w w := Below.refl _ _
  go_enter Try.func87, Try.ntmps87
  go_wp2_with fail
  refine (HR.out _).mono ?_
  rintro e v1 ⟨rfl, hb1⟩
  obtain ⟨V_1, V_1'⟩ : Row v1 g (RV R (.slice (some ⟨bl, 0, none⟩) n n) (.int .i64 lost)) := Row.step (by go_simp) (by go_simp) hb1
  obtain ⟨L_1, L_1'⟩ : Row v1 bl C := Row.step (by go_simp) (by go_simp) hb1
  have hB_1 : Aside2 g bl w v1 := Aside2.low (by go_simp) hb1
  clear hr hr' hl hl' hX hb1
  have hz_1 : w.heap.size ≤ v1.heap.size := hB_1.size
  have hl_V_1 := isRow.lt V_1
  have ne_V_1_0 : ¬ g = v1.heap.size := by omega
  have en_V_1_0 : ¬ v1.heap.size = g := by omega
  have hl_L_1 := isRow.lt L_1
  have ne_L_1_0 : ¬ bl = v1.heap.size := by omega
  have en_L_1_0 : ¬ v1.heap.size = bl := by omega
  go_wp2_with fail
  refine (HD.out _).mono ?_
  rintro e v2 ⟨rfl, hb2⟩
  obtain ⟨V_2, V_2'⟩ : Row v2 g (RV R (.slice (some ⟨bl, 0, none⟩) n n) (.int .i64 lost)) := Row.step (by go_simp) (by go_simp) hb2
  obtain ⟨L_2, L_2'⟩ : Row v2 bl C := Row.step (by go_simp) (by go_simp) hb2
  have hB_2 : Aside2 g bl w v2 := Aside2.low (by go_simp) hb2
  clear V_1 V_1' L_1 L_1' hB_1 hb2
  have hz_2 : w.heap.size ≤ v2.heap.size := hB_2.size
  have hl_V_2 := isRow.lt V_2
  have ne_V_2_0 : ¬ g = v2.heap.size := by omega
  have en_V_2_0 : ¬ v2.heap.size = g := by omega
  have hl_L_2 := isRow.lt L_2
  have ne_L_2_0 : ¬ bl = v2.heap.size := by omega
  have en_L_2_0 : ¬ v2.heap.size = bl := by omega
  have ne_V_X : ¬ g = v2.heap.size := by omega
  have en_V_X : ¬ v2.heap.size = g := by omega
  have ne_L_X : ¬ bl = v2.heap.size := by omega
  have en_L_X : ¬ v2.heap.size = bl := by omega
  go_wp2
  go_ret2
  exact ⟨rfl, ⟨by go_simp, by go_simp⟩, ⟨by go_simp, by go_simp⟩, by go_simp⟩
set_option maxRecDepth 100000 in
set_option maxHeartbeats 2000000 in
theorem reoi_4 (g bl : Nat) (R R' : Array Value) (hR : R.size = 70) (n : Nat) (C C' : Array Value) (lost lost' mm gp id : Int) (ok : Bool) (w : World) (hr : isRow w g) (hr' : rowAt w g = (RV R (.slice (some ⟨bl, 0, none⟩) n n) (.int .i64 lost))) (hl : isRow w bl) (hl' : rowAt w bl = C) (hne : ¬ g = bl) (hne' : ¬ bl = g) (hR' : R'.size = 70) (hO : AllOne R') (hsp : ∀ q : 5 < R'.size, R'[5] = .bool false) (HR : Hid (∀ W : World, Calls Try.prog 30 #[.int .i64 id] W fun e w' => e = .returned (.bool true) ∧ Below W.heap.size W w')) (HD : Hid (∀ W : World, Calls Try.prog 96 #[.agg R, .int .i64 gp] W fun e w' => e = .returned (.tuple #[.agg R', .bool true]) ∧ Below W.heap.size W w')) (HE : Hid (∀ W : World, isRow W g → rowAt W g = (RV R' (.slice (some ⟨bl, 0, none⟩) n n) (.int .i64 lost)) → isRow W bl → rowAt W bl = C → Calls Try.prog 97 #[.pointer (some ⟨g, 0, none⟩), .int .i64 id] W fun e w' => e = .returned (.tuple #[.bool ok, .int .i64 mm]) ∧ Row w' g (RV R' (.slice (some ⟨bl, 0, none⟩) n n) (.int .i64 lost')) ∧ Row w' bl C' ∧ Aside2 g bl W w')) :
    Calls Try.prog 87 #[.pointer (some ⟨g, 0, none⟩), .int .i64 gp, .int .i64 id] w fun e w' => e = .returned (.tuple #[.bool ok, .int .i64 mm]) ∧ Row w' g (RV R' (.slice (some ⟨bl, 0, none⟩) n n) (.int .i64 lost')) ∧ Row w' bl C' ∧ Aside2 g bl w w' := by
  have _u : True := by have _ := hne; have _ := hne'; trivial
  clear _u
  have hX : Aside2 g bl w w := .of_below (Below.refl _ _)
  have lr := hr.lt
  have ll := hl.lt
  have nr : ¬ g = w.heap.size := by omega
  have rn : ¬ w.heap.size = g := by omega
  have nl : ¬ bl = w.heap.size := by omega
  have ln : ¬ w.heap.size = bl := by omega
  have hB_0 : Below w.heap.size w w := Below.refl _ _
  go_enter Try.func87, Try.ntmps87
  go_wp2_with fail
  refine (HR.out _).mono ?_
  rintro e v1 ⟨rfl, hb1⟩
  obtain ⟨V_1, V_1'⟩ : Row v1 g (RV R (.slice (some ⟨bl, 0, none⟩) n n) (.int .i64 lost)) := Row.step (by go_simp) (by go_simp) hb1
  obtain ⟨L_1, L_1'⟩ : Row v1 bl C := Row.step (by go_simp) (by go_simp) hb1
  have hB_1 : Aside2 g bl w v1 := Aside2.low (by go_simp) hb1
  clear hr hr' hl hl' hX hb1
  have hz_1 : w.heap.size ≤ v1.heap.size := hB_1.size
  have hl_V_1 := isRow.lt V_1
  have ne_V_1_0 : ¬ g = v1.heap.size := by omega
  have en_V_1_0 : ¬ v1.heap.size = g := by omega
  have hl_L_1 := isRow.lt L_1
  have ne_L_1_0 : ¬ bl = v1.heap.size := by omega
  have en_L_1_0 : ¬ v1.heap.size = bl := by omega
  go_wp2_with fail
  refine (HD.out _).mono ?_
  rintro e v2 ⟨rfl, hb2⟩
  obtain ⟨V_2, V_2'⟩ : Row v2 g (RV R (.slice (some ⟨bl, 0, none⟩) n n) (.int .i64 lost)) := Row.step (by go_simp) (by go_simp) hb2
  obtain ⟨L_2, L_2'⟩ : Row v2 bl C := Row.step (by go_simp) (by go_simp) hb2
  have hB_2 : Aside2 g bl w v2 := Aside2.low (by go_simp) hb2
  clear V_1 V_1' L_1 L_1' hB_1 hb2
  have hz_2 : w.heap.size ≤ v2.heap.size := hB_2.size
  have hl_V_2 := isRow.lt V_2
  have ne_V_2_0 : ¬ g = v2.heap.size := by omega
  have en_V_2_0 : ¬ v2.heap.size = g := by omega
  have hl_L_2 := isRow.lt L_2
  have ne_L_2_0 : ¬ bl = v2.heap.size := by omega
  have en_L_2_0 : ¬ v2.heap.size = bl := by omega
  have ne_V_X : ¬ g = v2.heap.size := by omega
  have en_V_X : ¬ v2.heap.size = g := by omega
  have ne_L_X : ¬ bl = v2.heap.size := by omega
  have en_L_X : ¬ v2.heap.size = bl := by omega
  go_wp2_with fail
  refine (HE.out _ (by go_simp) (by go_simp) (by go_simp) (by go_simp)).mono ?_
  rintro e v3 ⟨rfl, ⟨V_3, V_3'⟩, ⟨L_3, L_3'⟩, hA3⟩
  obtain ⟨X_3, X_3'⟩ : Row v3 v2.heap.size R' := hA3.row ⟨by go_simp, by go_simp⟩ (by omega) (by omega)
  have hB_3 : Aside2 g bl w v3 := Aside2.trans (by go_simp) hA3
  clear V_2 V_2' L_2 L_2' hB_2 hA3
  have hz_3 : w.heap.size ≤ v3.heap.size := hB_3.size
  have hl_V_3 := isRow.lt V_3
  have ne_V_3_0 : ¬ g = v3.heap.size := by omega
  have en_V_3_0 : ¬ v3.heap.size = g := by omega
  have hl_L_3 := isRow.lt L_3
  have ne_L_3_0 : ¬ bl = v3.heap.size := by omega
  have en_L_3_0 : ¬ v3.heap.size = bl := by omega
  have hl_X_3 := isRow.lt X_3
  have ne_X_3_0 : ¬ v2.heap.size = v3.heap.size := by omega
  have en_X_3_0 : ¬ v3.heap.size = v2.heap.size := by omega
  go_wp2
  go_ret2
  exact ⟨rfl, ⟨by go_simp, by go_simp⟩, ⟨by go_simp, by go_simp⟩, by go_simp⟩
set_option maxRecDepth 100000 in
set_option maxHeartbeats 2000000 in
theorem rdir_1 (g bl : Nat) (R : Array Value) (n : Nat) (C : Array Value) (lost id : Int) (w : World) (hr : isRow w g) (hr' : rowAt w g = (RV R (.slice (some ⟨bl, 0, none⟩) n n) (.int .i64 lost))) (hl : isRow w bl) (hl' : rowAt w bl = C) (hne : ¬ g = bl) (hne' : ¬ bl = g) (HR : Hid (∀ W : World, Calls Try.prog 30 #[.int .i64 id] W fun e w' => e = .returned (.bool false) ∧ Below W.heap.size W w')) :
    Calls Try.prog 88 #[.pointer (some ⟨g, 0, none⟩), .int .i64 id] w fun e w' => e = .returned (.tuple #[.bool false, .int .i64 (-1)]) ∧ Row w' g (RV R (.slice (some ⟨bl, 0, none⟩) n n) (.int .i64 lost)) ∧ Row w' bl C ∧ Aside2 g bl w w' := by
  have _u : True := by have _ := hne; have _ := hne'; trivial
  clear _u
  have hX : Aside2 g bl w w := .of_below (Below.refl _ _)
  have lr := hr.lt
  have ll := hl.lt
  have nr : ¬ g = w.heap.size := by omega
  have rn : ¬ w.heap.size = g := by omega
  have nl : ¬ bl = w.heap.size := by omega
  have ln : ¬ w.heap.size = bl := by omega
  have hB_0 : Below w.heap.size w w := Below.refl _ _
  go_enter Try.func88, Try.ntmps88
  go_wp2_with fail
  refine (HR.out _).mono ?_
  rintro e v1 ⟨rfl, hb1⟩
  obtain ⟨V_1, V_1'⟩ : Row v1 g (RV R (.slice (some ⟨bl, 0, none⟩) n n) (.int .i64 lost)) := Row.step (by go_simp) (by go_simp) hb1
  obtain ⟨L_1, L_1'⟩ : Row v1 bl C := Row.step (by go_simp) (by go_simp) hb1
  have hB_1 : Aside2 g bl w v1 := Aside2.low (by go_simp) hb1
  clear hr hr' hl hl' hX hb1
  have hz_1 : w.heap.size ≤ v1.heap.size := hB_1.size
  have hl_V_1 := isRow.lt V_1
  have ne_V_1_0 : ¬ g = v1.heap.size := by omega
  have en_V_1_0 : ¬ v1.heap.size = g := by omega
  have hl_L_1 := isRow.lt L_1
  have ne_L_1_0 : ¬ bl = v1.heap.size := by omega
  have en_L_1_0 : ¬ v1.heap.size = bl := by omega
  go_wp2
  go_ret2
  exact ⟨rfl, ⟨by go_simp, by go_simp⟩, ⟨by go_simp, by go_simp⟩, by go_simp⟩
set_option maxRecDepth 100000 in
set_option maxHeartbeats 2000000 in
theorem rdir_2 (g bl : Nat) (R : Array Value) (n : Nat) (C : Array Value) (lost id : Int) (w : World) (hr : isRow w g) (hr' : rowAt w g = (RV R (.slice (some ⟨bl, 0, none⟩) n n) (.int .i64 lost))) (hl : isRow w bl) (hl' : rowAt w bl = C) (hne : ¬ g = bl) (hne' : ¬ bl = g) (hR : R.size = 70) (hsp : ∀ q : 5 < R.size, R[5] = .bool false) (HR : Hid (∀ W : World, Calls Try.prog 30 #[.int .i64 id] W fun e w' => e = .returned (.bool true) ∧ Below W.heap.size W w')) :
    Calls Try.prog 88 #[.pointer (some ⟨g, 0, none⟩), .int .i64 id] w fun e w' => e = .returned (.tuple #[.bool false, .int .i64 (-1)]) ∧ Row w' g (RV R (.slice (some ⟨bl, 0, none⟩) n n) (.int .i64 lost)) ∧ Row w' bl C ∧ Aside2 g bl w w' := by
  have _u : True := by have _ := hne; have _ := hne'; trivial
  clear _u
  have hX : Aside2 g bl w w := .of_below (Below.refl _ _)
  have lr := hr.lt
  have ll := hl.lt
  have nr : ¬ g = w.heap.size := by omega
  have rn : ¬ w.heap.size = g := by omega
  have nl : ¬ bl = w.heap.size := by omega
  have ln : ¬ w.heap.size = bl := by omega
  have hB_0 : Below w.heap.size w w := Below.refl _ _
  go_enter Try.func88, Try.ntmps88
  go_wp2_with fail
  refine (HR.out _).mono ?_
  rintro e v1 ⟨rfl, hb1⟩
  obtain ⟨V_1, V_1'⟩ : Row v1 g (RV R (.slice (some ⟨bl, 0, none⟩) n n) (.int .i64 lost)) := Row.step (by go_simp) (by go_simp) hb1
  obtain ⟨L_1, L_1'⟩ : Row v1 bl C := Row.step (by go_simp) (by go_simp) hb1
  have hB_1 : Aside2 g bl w v1 := Aside2.low (by go_simp) hb1
  clear hr hr' hl hl' hX hb1
  have hz_1 : w.heap.size ≤ v1.heap.size := hB_1.size
  have hl_V_1 := isRow.lt V_1
  have ne_V_1_0 : ¬ g = v1.heap.size := by omega
  have en_V_1_0 : ¬ v1.heap.size = g := by omega
  have hl_L_1 := isRow.lt L_1
  have ne_L_1_0 : ¬ bl = v1.heap.size := by omega
  have en_L_1_0 : ¬ v1.heap.size = bl := by omega
  go_wp2
  go_ret2
  exact ⟨rfl, ⟨by go_simp, by go_simp⟩, ⟨by go_simp, by go_simp⟩, by go_simp⟩
set_option maxRecDepth 100000 in
set_option maxHeartbeats 2000000 in
theorem rdir_4 (g bl : Nat) (R : Array Value) (n : Nat) (C C' : Array Value) (lost lost' mm id : Int) (ok : Bool) (w : World) (hr : isRow w g) (hr' : rowAt w g = (RV R (.slice (some ⟨bl, 0, none⟩) n n) (.int .i64 lost))) (hl : isRow w bl) (hl' : rowAt w bl = C) (hne : ¬ g = bl) (hne' : ¬ bl = g) (hR : R.size = 70) (hsp : ∀ q : 5 < R.size, R[5] = .bool true) (HR : Hid (∀ W : World, Calls Try.prog 30 #[.int .i64 id] W fun e w' => e = .returned (.bool true) ∧ Below W.heap.size W w')) (HE : Hid (∀ W : World, isRow W g → rowAt W g = (RV R (.slice (some ⟨bl, 0, none⟩) n n) (.int .i64 lost)) → isRow W bl → rowAt W bl = C → Calls Try.prog 97 #[.pointer (some ⟨g, 0, none⟩), .int .i64 id] W fun e w' => e = .returned (.tuple #[.bool ok, .int .i64 mm]) ∧ Row w' g (RV R (.slice (some ⟨bl, 0, none⟩) n n) (.int .i64 lost')) ∧ Row w' bl C' ∧ Aside2 g bl W w')) :
    Calls Try.prog 88 #[.pointer (some ⟨g, 0, none⟩), .int .i64 id] w fun e w' => e = .returned (.tuple #[.bool ok, .int .i64 mm]) ∧ Row w' g (RV R (.slice (some ⟨bl, 0, none⟩) n n) (.int .i64 lost')) ∧ Row w' bl C' ∧ Aside2 g bl w w' := by
  have _u : True := by have _ := hne; have _ := hne'; trivial
  clear _u
  have hX : Aside2 g bl w w := .of_below (Below.refl _ _)
  have lr := hr.lt
  have ll := hl.lt
  have nr : ¬ g = w.heap.size := by omega
  have rn : ¬ w.heap.size = g := by omega
  have nl : ¬ bl = w.heap.size := by omega
  have ln : ¬ w.heap.size = bl := by omega
  have hB_0 : Below w.heap.size w w := Below.refl _ _
  go_enter Try.func88, Try.ntmps88
  go_wp2_with fail
  refine (HR.out _).mono ?_
  rintro e v1 ⟨rfl, hb1⟩
  obtain ⟨V_1, V_1'⟩ : Row v1 g (RV R (.slice (some ⟨bl, 0, none⟩) n n) (.int .i64 lost)) := Row.step (by go_simp) (by go_simp) hb1
  obtain ⟨L_1, L_1'⟩ : Row v1 bl C := Row.step (by go_simp) (by go_simp) hb1
  have hB_1 : Aside2 g bl w v1 := Aside2.low (by go_simp) hb1
  clear hr hr' hl hl' hX hb1
  have hz_1 : w.heap.size ≤ v1.heap.size := hB_1.size
  have hl_V_1 := isRow.lt V_1
  have ne_V_1_0 : ¬ g = v1.heap.size := by omega
  have en_V_1_0 : ¬ v1.heap.size = g := by omega
  have hl_L_1 := isRow.lt L_1
  have ne_L_1_0 : ¬ bl = v1.heap.size := by omega
  have en_L_1_0 : ¬ v1.heap.size = bl := by omega
  go_wp2_with fail
  refine (HE.out _ (by go_simp) (by go_simp) (by go_simp) (by go_simp)).mono ?_
  rintro e v2 ⟨rfl, ⟨V_2, V_2'⟩, ⟨L_2, L_2'⟩, hA2⟩
  have hB_2 : Aside2 g bl w v2 := Aside2.trans (by go_simp) hA2
  clear V_1 V_1' L_1 L_1' hB_1 hA2
  have hz_2 : w.heap.size ≤ v2.heap.size := hB_2.size
  have hl_V_2 := isRow.lt V_2
  have ne_V_2_0 : ¬ g = v2.heap.size := by omega
  have en_V_2_0 : ¬ v2.heap.size = g := by omega
  have hl_L_2 := isRow.lt L_2
  have ne_L_2_0 : ¬ bl = v2.heap.size := by omega
  have en_L_2_0 : ¬ v2.heap.size = bl := by omega
  go_wp2
  go_ret2
  exact ⟨rfl, ⟨by go_simp, by go_simp⟩, ⟨by go_simp, by go_simp⟩, by go_simp⟩
end Go.Proofs.Ytkbaghblchlcnaa.Lr
namespace Go.Proofs.Ytkbaghblchlcnaa.Lr
open Go.RowKit Go.Shelf Go.Proofs.YtkbaghblchlcnaaW.PrintWords Go.Proofs.Ytkbaghblchlcnaa.IAll
section
variable (sp : Bool) (a b gp id : Int)
def eoiGo : Bool := realC id && (dropB' a b gp && !sp)
def eoiA : Int := if realC id && dropB' a b gp then dropA a b else a
def eoiB : Int := if realC id && dropB' a b gp then dropB a b else b
def dirGo : Bool := realC id && sp
variable (xs : List S54) (go : Bool) (lost : Int)
def gOk : Bool := if go then endOk xs id else false
def gM : Int := if go then endM xs id else -1
def gXs : List S54 := if go then endXs xs id else xs
def gLost : Int := if go then endLost xs id lost else lost
end
theorem RC_sp (m p0 p1 : Int) (o0 o1 sp : Bool) (f : Nat → Bool) : ∀ q : 5 < (RC m p0 p1 o0 o1 sp f).size, (RC m p0 p1 o0 o1 sp f)[5] = .bool sp := fun _ => RC_at5
theorem real_v (id : Int) (W : World) : Calls Try.prog 47 #[.int .i64 id] W fun e w' => e = .returned (.bool (realC id)) ∧ Below W.heap.size W w' := (CReal_c id W).mono fun _ _ h => bs h
theorem real_r (id : Int) (W : World) : Calls Try.prog 30 #[.int .i64 id] W fun e w' => e = .returned (.bool (realC id)) ∧ Below W.heap.size W w' := (RReal_c id W).mono fun _ _ h => bs h
section
variable (g bl : Nat) (m p0 p1 : Int) (o0 o1 sp : Bool) (a b : Int) (xs : List S54) (hx : xs.length ≤ 16) (hst : stOk xs) (lost gp id : Int) (hlo : 0 ≤ lost) (hlo2 : lost ≤ 4611686018427387904) (hne : ¬ g = bl) (w : World)
include hx hst hlo hlo2 hne
theorem reoi_c (hr : isRow w g) (hr' : rowAt w g = RV (RC m p0 p1 o0 o1 sp (rb a b)) (.slice (some ⟨bl, 0, none⟩) xs.length xs.length) (.int .i64 lost)) (hl : isRow w bl) (hl' : rowAt w bl = FA xs) :
    Calls Try.prog 87 #[.pointer (some ⟨g, 0, none⟩), .int .i64 gp, .int .i64 id] w fun e w' => e = .returned (.tuple #[.bool (gOk id xs (eoiGo sp a b gp id)), .int .i64 (gM id xs (eoiGo sp a b gp id))]) ∧
      Row w' g (RV (RC m p0 p1 o0 o1 sp (rb (eoiA a b gp id) (eoiB a b gp id))) (.slice (some ⟨bl, 0, none⟩) xs.length xs.length) (.int .i64 (gLost id xs (eoiGo sp a b gp id) lost))) ∧ Row w' bl (FA (gXs id xs (eoiGo sp a b gp id))) ∧ Aside2 g bl w w' := by
  have hne' : ¬ bl = g := fun e => hne e.symm
  have HR := Lib.hid (fun W : World => real_r id W)
  have HD := Lib.hid (fun W : World => rDropI_c m p0 p1 o0 o1 sp a b gp W)
  unfold eoiGo eoiA eoiB gOk gM gXs gLost
  cases h1 : realC id with
  | false =>
    rw [h1] at HR
    simp only [Bool.false_and, Bool.false_eq_true, if_false]
    exact reoi_1 g bl _ xs.length (FA xs) lost gp id w hr hr' hl hl' hne hne' HR
  | true =>
    rw [h1] at HR
    simp only [Bool.true_and]
    cases h2 : dropB' a b gp with
    | false =>
      rw [h2] at HD
      simp only [Bool.false_eq_true, if_false] at HD
      simp only [Bool.false_and, Bool.false_eq_true, if_false]
      exact reoi_2 g bl _ _ RC_size xs.length (FA xs) lost gp id w hr hr' hl hl' hne hne' RC_size RC_one HR HD
    | true =>
      rw [h2] at HD
      simp only [if_true] at HD
      cases sp with
      | true =>
        simp only [Bool.not_true, Bool.and_false, Bool.false_eq_true, if_false, if_true]
        exact reoi_3 g bl _ _ RC_size xs.length (FA xs) lost gp id w hr hr' hl hl' hne hne' RC_size RC_one (RC_sp _ _ _ _ _ _ _) HR HD
      | false =>
        simp only [Bool.not_false, Bool.and_true, if_true]
        have HE := Lib.hid (fun (W : World) (q : isRow W g) (q' : rowAt W g = RV (RC m p0 p1 o0 o1 false (rb (dropA a b) (dropB a b))) (.slice (some ⟨bl, 0, none⟩) xs.length xs.length) (.int .i64 lost)) (k : isRow W bl) (k' : rowAt W bl = FA xs) =>
          rend_c g bl _ RC_size xs hx hst lost id hlo hlo2 hne W q q' k k')
        exact reoi_4 g bl _ _ RC_size xs.length (FA xs) _ lost _ _ gp id _ w hr hr' hl hl' hne hne' RC_size RC_one (RC_sp _ _ _ _ _ _ _) HR HD HE
theorem rdir_c (hr : isRow w g) (hr' : rowAt w g = RV (RC m p0 p1 o0 o1 sp (rb a b)) (.slice (some ⟨bl, 0, none⟩) xs.length xs.length) (.int .i64 lost)) (hl : isRow w bl) (hl' : rowAt w bl = FA xs) :
    Calls Try.prog 88 #[.pointer (some ⟨g, 0, none⟩), .int .i64 id] w fun e w' => e = .returned (.tuple #[.bool (gOk id xs (dirGo sp id)), .int .i64 (gM id xs (dirGo sp id))]) ∧
      Row w' g (RV (RC m p0 p1 o0 o1 sp (rb a b)) (.slice (some ⟨bl, 0, none⟩) xs.length xs.length) (.int .i64 (gLost id xs (dirGo sp id) lost))) ∧ Row w' bl (FA (gXs id xs (dirGo sp id))) ∧ Aside2 g bl w w' := by
  have hne' : ¬ bl = g := fun e => hne e.symm
  have HR := Lib.hid (fun W : World => real_r id W)
  unfold dirGo gOk gM gXs gLost
  cases h1 : realC id with
  | false =>
    rw [h1] at HR
    simp only [Bool.false_and, Bool.false_eq_true, if_false]
    exact rdir_1 g bl _ xs.length (FA xs) lost id w hr hr' hl hl' hne hne' HR
  | true =>
    rw [h1] at HR
    simp only [Bool.true_and]
    cases sp with
    | false =>
      simp only [Bool.false_eq_true, if_false]
      exact rdir_2 g bl _ xs.length (FA xs) lost id w hr hr' hl hl' hne hne' RC_size (RC_sp _ _ _ _ _ _ _) HR
    | true =>
      simp only [if_true]
      have HE := Lib.hid (fun (W : World) (q : isRow W g) (q' : rowAt W g = RV (RC m p0 p1 o0 o1 true (rb a b)) (.slice (some ⟨bl, 0, none⟩) xs.length xs.length) (.int .i64 lost)) (k : isRow W bl) (k' : rowAt W bl = FA xs) =>
        rend_c g bl _ RC_size xs hx hst lost id hlo hlo2 hne W q q' k k')
      exact rdir_4 g bl _ xs.length (FA xs) _ lost _ _ id _ w hr hr' hl hl' hne hne' RC_size (RC_sp _ _ _ _ _ _ _) HR HE
end
end Go.Proofs.Ytkbaghblchlcnaa.Lr
namespace Go.Proofs.Ytkbaghblchlcnaa.Lr
open Go.RowKit Go.Shelf Go.Proofs.YtkbaghblchlcnaaW.PrintWords Go.Proofs.Ytkbaghblchlcnaa.IAll
attribute [local go_sem] Oper.semAt_some cell_row frozen_row isRow_setCell_eq rowAt_setCell_same rowAt_setCell_other isRow_alloc_eq rowAt_alloc rowAt_new rowAt_new' isRow_setRow_eq rowAt_setRow_same rowAt_setRow_other isRow_drew rowAt_drew size_setRow_ Lb_size Lb_at blk_ptr aggOf_agg below_alloc_e below_setCell_e below_setRow_e below_refl_e below_drew_r aside2_alloc_e aside2_setCell_e aside2_setRow_e aside2_drew_e aside2_refl_e aside2_drewN_e isRow_drewN rowAt_drewN below_drewN_e le_add_r offv_ptr one_lad zero_lad allOne_nil allOne_cons Value.oneCell' addr_at FA_size one_FA
attribute [local go_sem ↓] storeI storeC storeE
attribute [local go_sem] eq2i eq2b eq2u
theorem resD (fn : Func) {p u u2 : Tmp} {x : Bool} {y : Int} {g : Nat} (h : fn.results = #[.tmp u, .cell p 57, .tmp u2]) (tmps : Array Value) (w : World) (hp : tmps.getD p undef = .pointer (some ⟨g, 0, none⟩)) (hg : Row w g #[.bool x, .int .i64 y]) {v v2 : Value} (hv : tmps.getD u undef = v) (hv2 : tmps.getD u2 undef = v2) : (results fn tmps).run Try.prog w = .ok (.tuple #[v, .agg #[.bool x, .int .i64 y], v2]) w := by
  obtain ⟨t, ht⟩ := hg.box
  have hl := run_loadVar_row w g t 57 _ (0, 0) _ ht Try.underlying57 rfl infoE
  have hp' : tmps[p]?.getD undef = .pointer (some ⟨g, 0, none⟩) := by simpa using hp
  have hv' : tmps[u]?.getD undef = v := by simpa using hv
  have hv2' : tmps[u2]?.getD undef = v2 := by simpa using hv2
  simp only [results, h]
  simp [Result.andThen, asAddr, hp', hl, hv', hv2']
end Go.Proofs.Ytkbaghblchlcnaa.Lr
