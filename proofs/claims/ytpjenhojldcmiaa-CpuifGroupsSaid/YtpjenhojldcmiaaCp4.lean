/- Contracts by hand: the processor's interface, through a pointer: what is dropped, written; what is read. -/
import Derived.Test.YtpjenhojldcmiaaCp3
namespace Go.Proofs.Ytpjenhojldcmiaa
open Go.RowKit Go.Shelf
attribute [local go_sem] Oper.semAt_some cell_row frozen_row isRow_setCell_eq rowAt_setCell_same rowAt_setCell_other isRow_alloc_eq rowAt_alloc rowAt_new isRow_setRow_eq rowAt_setRow_same rowAt_setRow_other isRow_drew rowAt_drew size_setRow_ Lb_size Lb_at blk_ptr aggOf_agg below_alloc_r below_setCell_r below_setRow_r below_drew_r le_add_r
def takeB (m p0 p1 : Int) (o0 o1 : Bool) (a b pr gr : Int) (is : Bool) (gp : Int) : Bool := mayP m p0 p1 o0 o1 a b pr gr is && gr == gp
def levP (p0 p1 pr gp : Int) : Int := bits .and .i64 pr (maskP (gp % 2) (ptP p0 p1 gp))
theorem Take_c (g : Nat) (m p0 p1 : Int) (o0 o1 sp : Bool) (a b : Int) (id pr gr : Int) (is : Bool) (gp : Int) (w : World) (hr : isRow w g) (hr' : rowAt w g = #[.int .i64 m, .int .i64 p0, .int .i64 p1, .bool o0, .bool o1, .bool sp, .int .u32 a, .int .u32 b]) :
    Calls Try.prog 10 #[.pointer (some ⟨g, 0, none⟩), .agg #[.int .i64 id, .int .i64 pr, .int .i64 gr, .bool is], .int .i64 gp] w fun e w' => e = .returned (.tuple #[.int .i64 (if takeB m p0 p1 o0 o1 a b pr gr is gp then id else 1023), .bool (takeB m p0 p1 o0 o1 a b pr gr is gp)]) ∧
      Row w' g #[.int .i64 m, .int .i64 p0, .int .i64 p1, .bool o0, .bool o1, .bool sp, .int .u32 (if takeB m p0 p1 o0 o1 a b pr gr is gp then setA .or a gp (levP p0 p1 pr gp) else a), .int .u32 (if takeB m p0 p1 o0 o1 a b pr gr is gp then setB .or b gp (levP p0 p1 pr gp) else b)] ∧ Aside g w w' := by
  cases hm : mayP m p0 p1 o0 o1 a b pr gr is with
  | false =>
    have ht : takeB m p0 p1 o0 o1 a b pr gr is gp = false := by unfold takeB; rw [hm]; rfl
    rw [ht]
    exact (Take_no1 g m p0 p1 o0 o1 sp a b id pr gr is gp w hr hr' hm).mono fun e w' ⟨h1, h2⟩ => ⟨h1, Row.step hr hr' h2, Aside.of_below h2⟩
  | true =>
    by_cases hg : gr = gp
    · subst hg
      have ht : takeB m p0 p1 o0 o1 a b pr gr is gr = true := by unfold takeB; rw [hm]; simp
      rw [ht]
      exact Take_yes g m p0 p1 o0 o1 sp a b id pr gr is w hr hr' hm _ rfl _ _ rfl rfl
    · have ht : takeB m p0 p1 o0 o1 a b pr gr is gp = false := by unfold takeB; rw [hm]; simp [hg]
      rw [ht]
      exact (Take_no2 g m p0 p1 o0 o1 sp a b id pr gr is gp w hr hr' hm (by simp [bne, hg])).mono fun e w' ⟨h1, h2⟩ => ⟨h1, Row.step hr hr' h2, Aside.of_below h2⟩
def dropB' (a b gp : Int) : Bool := !((top a b).1 == 255) && (top a b).2 == gp
set_option maxRecDepth 100000 in
set_option maxHeartbeats 2000000 in
theorem IfDrop_c (g : Nat) (m p0 p1 : Int) (o0 o1 sp : Bool) (a b : Int) (gp : Int) (w : World) (hr : isRow w g) (hr' : rowAt w g = #[.int .i64 m, .int .i64 p0, .int .i64 p1, .bool o0, .bool o1, .bool sp, .int .u32 a, .int .u32 b]) :
    Calls Try.prog 14 #[.pointer (some ⟨g, 0, none⟩), .int .i64 gp] w fun e w' => e = .returned (.bool (dropB' a b gp)) ∧ Row w' g #[.int .i64 m, .int .i64 p0, .int .i64 p1, .bool o0, .bool o1, .bool sp, .int .u32 (if dropB' a b gp then dropA a b else a), .int .u32 (if dropB' a b gp then dropB a b else b)] ∧ Aside g w w' := by
  have HR := Lib.hid (fun W : World => ifrun_c m p0 p1 o0 o1 sp a b W)
  have HD := Lib.hid (fun W : World => Drop_c a b W)
  unfold dropB'
  generalize (top a b).1 = r1 at *
  generalize (top a b).2 = r2 at *
  generalize dropA a b = x at *
  generalize dropB a b = y at *
  generalize some? a b = z at *
  by_cases h1 : r1 = 255
  · subst h1
    have HE := Lib.hid (show (!((255 : Int) == 255) && r2 == gp) = false by simp)
    rw [HE.out]
    go_enter Try.func14, Try.ntmps14
    go_wp2_with (go_at_call 12; refine (HR.out _).mono ?_; rintro e w1 ⟨rfl, hb⟩)
    go_ret
    exact ⟨rfl, Row.step hr hr' hb, Aside.of_below hb⟩
  · have e1 : (r1 == 255) = false := by simpa using h1
    by_cases h2 : r2 = gp
    · subst h2
      have HE := Lib.hid (show (!(r1 == 255) && r2 == r2) = true by simp [h1])
      rw [HE.out]
      clear h1
      go_enter Try.func14, Try.ntmps14
      go_wp2_with (first | (go_at_call 12; refine (HR.out _).mono ?_; rintro e w1 ⟨rfl, hb⟩; obtain ⟨Q0, Q0'⟩ := Row.step hr hr' hb) | (go_at_call 36; refine (HD.out _).mono ?_; rintro e w2 ⟨rfl, hb2⟩; obtain ⟨Q1, Q1'⟩ := Row.step Q0 Q0' hb2))
      go_ret
      exact ⟨rfl, ⟨by go_simp, by go_simp⟩, ((Aside.of_below (bk hb hb.size hb2)).setCell _).setCell _⟩
    · have e2 : (r2 != gp) = true := by simp [bne, h2]
      have HE := Lib.hid (show (!(r1 == 255) && r2 == gp) = false by simp [h2])
      rw [HE.out]
      clear h1 h2
      go_enter Try.func14, Try.ntmps14
      go_wp2_with (go_at_call 12; refine (HR.out _).mono ?_; rintro e w1 ⟨rfl, hb⟩)
      go_ret
      exact ⟨rfl, Row.step hr hr' hb, Aside.of_below hb⟩
theorem bit_c (x : Bool) (w : World) : Calls Try.prog 38 #[.bool x] w fun e w' => e = .returned (.int .u64 (if x then 1 else 0)) ∧ w = w' := by
  cases x
  · go_enter Try.func38, Try.ntmps38
    go_wp2
    go_ret
    exact ⟨rfl, rfl⟩
  · go_enter Try.func38, Try.ntmps38
    go_wp2
    go_ret
    exact ⟨rfl, rfl⟩
/-- what is read of a register, and whether it can be -/
def rdN (r m p0 p1 : Int) (o0 o1 sp : Bool) (a b : Int) : Int :=
  if r = 6 then IntKind.u64.wrap m else if r = 7 then IntKind.u64.wrap p0 else if r = 8 then IntKind.u64.wrap (if p1 < 1 then 1 else p1) else if r = 9 then (if sp then 2 else 0) else if r = 10 then (if o0 then 1 else 0) else if r = 11 then (if o1 then 1 else 0) else if r = 12 then IntKind.u64.wrap (top a b).1 else 0
def rdOk (r : Int) : Bool := r == 6 || r == 7 || r == 8 || r == 9 || r == 10 || r == 11 || r == 12
set_option maxRecDepth 100000 in
set_option maxHeartbeats 4000000 in
theorem Read_c (m p0 p1 : Int) (o0 o1 sp : Bool) (a b : Int) (r : Int) (w : World) : Calls Try.prog 16 #[.agg #[.int .i64 m, .int .i64 p0, .int .i64 p1, .bool o0, .bool o1, .bool sp, .int .u32 a, .int .u32 b], .int .i64 r] w fun e w' => e = .returned (.tuple #[.int .u64 (rdN r m p0 p1 o0 o1 sp a b), .bool (rdOk r)]) ∧ Below w.heap.size w w' := by
  have hB0 : ∀ vs, Below w.heap.size w (w.alloc (.cells vs 29)) := fun vs => (Below.refl _ w).alloc (Nat.le_refl _) _
  have HR := Lib.hid (fun W : World => ifrun_c m p0 p1 o0 o1 sp a b W)
  have HBT := Lib.hid (fun (x : Bool) (W : World) => bit_c x W)
  unfold rdN
  generalize (top a b).1 = r1 at *
  generalize (top a b).2 = r2 at *
  by_cases h6 : r = 6
  · subst h6
    go_enter Try.func16, Try.ntmps16
    go_wp2_with (first | (go_at_call 38; refine (HBT.out _ _).mono ?_; rintro e w1 ⟨rfl, rfl⟩) | (go_at_call 12; refine (HR.out _).mono ?_; rintro e w1 ⟨rfl, hb⟩))
    go_ret2
    first | exact ⟨rfl, hB0 _⟩ | exact ⟨rfl, bk (hB0 _) (hB0 _).size hb⟩
  by_cases h7 : r = 7
  · subst h7
    go_enter Try.func16, Try.ntmps16
    go_wp2_with (first | (go_at_call 38; refine (HBT.out _ _).mono ?_; rintro e w1 ⟨rfl, rfl⟩) | (go_at_call 12; refine (HR.out _).mono ?_; rintro e w1 ⟨rfl, hb⟩))
    go_ret2
    first | exact ⟨rfl, hB0 _⟩ | exact ⟨rfl, bk (hB0 _) (hB0 _).size hb⟩
  by_cases h8 : r = 8
  · subst h8
    by_cases hp : p1 < 1
    · rw [if_pos hp]
      go_enter Try.func16, Try.ntmps16
      go_wp2_with (first | (go_at_call 38; refine (HBT.out _ _).mono ?_; rintro e w1 ⟨rfl, rfl⟩) | (go_at_call 12; refine (HR.out _).mono ?_; rintro e w1 ⟨rfl, hb⟩))
      go_ret2
      first | exact ⟨rfl, hB0 _⟩ | exact ⟨rfl, bk (hB0 _) (hB0 _).size hb⟩
    · rw [if_neg hp]
      by_cases hp1 : p1 = 1
      · subst hp1
        go_enter Try.func16, Try.ntmps16
        go_wp2_with (first | (go_at_call 38; refine (HBT.out _ _).mono ?_; rintro e w1 ⟨rfl, rfl⟩) | (go_at_call 12; refine (HR.out _).mono ?_; rintro e w1 ⟨rfl, hb⟩))
        go_ret2
        first | exact ⟨rfl, hB0 _⟩ | exact ⟨rfl, bk (hB0 _) (hB0 _).size hb⟩
      · have hp2 : 1 < p1 := by omega
        go_enter Try.func16, Try.ntmps16
        go_wp2_with (first | (go_at_call 38; refine (HBT.out _ _).mono ?_; rintro e w1 ⟨rfl, rfl⟩) | (go_at_call 12; refine (HR.out _).mono ?_; rintro e w1 ⟨rfl, hb⟩))
        go_ret2
        first | exact ⟨rfl, hB0 _⟩ | exact ⟨rfl, bk (hB0 _) (hB0 _).size hb⟩
  by_cases h9 : r = 9
  · subst h9
    cases sp
    · go_enter Try.func16, Try.ntmps16
      go_wp2_with (first | (go_at_call 38; refine (HBT.out _ _).mono ?_; rintro e w1 ⟨rfl, rfl⟩) | (go_at_call 12; refine (HR.out _).mono ?_; rintro e w1 ⟨rfl, hb⟩))
      go_ret2
      first | exact ⟨rfl, hB0 _⟩ | exact ⟨rfl, bk (hB0 _) (hB0 _).size hb⟩
    · go_enter Try.func16, Try.ntmps16
      go_wp2_with (first | (go_at_call 38; refine (HBT.out _ _).mono ?_; rintro e w1 ⟨rfl, rfl⟩) | (go_at_call 12; refine (HR.out _).mono ?_; rintro e w1 ⟨rfl, hb⟩))
      go_ret2
      first | exact ⟨rfl, hB0 _⟩ | exact ⟨rfl, bk (hB0 _) (hB0 _).size hb⟩
  by_cases h10 : r = 10
  · subst h10
    cases o0
    · go_enter Try.func16, Try.ntmps16
      go_wp2_with (first | (go_at_call 38; refine (HBT.out _ _).mono ?_; rintro e w1 ⟨rfl, rfl⟩) | (go_at_call 12; refine (HR.out _).mono ?_; rintro e w1 ⟨rfl, hb⟩))
      go_ret2
      first | exact ⟨rfl, hB0 _⟩ | exact ⟨rfl, bk (hB0 _) (hB0 _).size hb⟩
    · go_enter Try.func16, Try.ntmps16
      go_wp2_with (first | (go_at_call 38; refine (HBT.out _ _).mono ?_; rintro e w1 ⟨rfl, rfl⟩) | (go_at_call 12; refine (HR.out _).mono ?_; rintro e w1 ⟨rfl, hb⟩))
      go_ret2
      first | exact ⟨rfl, hB0 _⟩ | exact ⟨rfl, bk (hB0 _) (hB0 _).size hb⟩
  by_cases h11 : r = 11
  · subst h11
    cases o1
    · go_enter Try.func16, Try.ntmps16
      go_wp2_with (first | (go_at_call 38; refine (HBT.out _ _).mono ?_; rintro e w1 ⟨rfl, rfl⟩) | (go_at_call 12; refine (HR.out _).mono ?_; rintro e w1 ⟨rfl, hb⟩))
      go_ret2
      first | exact ⟨rfl, hB0 _⟩ | exact ⟨rfl, bk (hB0 _) (hB0 _).size hb⟩
    · go_enter Try.func16, Try.ntmps16
      go_wp2_with (first | (go_at_call 38; refine (HBT.out _ _).mono ?_; rintro e w1 ⟨rfl, rfl⟩) | (go_at_call 12; refine (HR.out _).mono ?_; rintro e w1 ⟨rfl, hb⟩))
      go_ret2
      first | exact ⟨rfl, hB0 _⟩ | exact ⟨rfl, bk (hB0 _) (hB0 _).size hb⟩
  by_cases h12 : r = 12
  · subst h12
    go_enter Try.func16, Try.ntmps16
    go_wp2_with (first | (go_at_call 38; refine (HBT.out _ _).mono ?_; rintro e w1 ⟨rfl, rfl⟩) | (go_at_call 12; refine (HR.out _).mono ?_; rintro e w1 ⟨rfl, hb⟩))
    go_ret2
    first | exact ⟨rfl, hB0 _⟩ | exact ⟨rfl, bk (hB0 _) (hB0 _).size hb⟩
  have e6 : (r == 6) = false := by simpa using h6
  have e7 : (r == 7) = false := by simpa using h7
  have e8 : (r == 8) = false := by simpa using h8
  have e9 : (r == 9) = false := by simpa using h9
  have e10 : (r == 10) = false := by simpa using h10
  have e11 : (r == 11) = false := by simpa using h11
  have e12 : (r == 12) = false := by simpa using h12
  have HE := Lib.hid (show rdOk r = false by unfold rdOk; rw [e6, e7, e8, e9, e10, e11, e12]; rfl)
  rw [if_neg h6, if_neg h7, if_neg h8, if_neg h9, if_neg h10, if_neg h11, if_neg h12, HE.out]
  clear h6 h7 h8 h9 h10 h11 h12
  go_enter Try.func16, Try.ntmps16
  go_wp2_with (first | (go_at_call 38; refine (HBT.out _ _).mono ?_; rintro e w1 ⟨rfl, rfl⟩) | (go_at_call 12; refine (HR.out _).mono ?_; rintro e w1 ⟨rfl, hb⟩))
  go_ret2
  first | exact ⟨rfl, hB0 _⟩ | exact ⟨rfl, bk (hB0 _) (hB0 _).size hb⟩
end Go.Proofs.Ytpjenhojldcmiaa
