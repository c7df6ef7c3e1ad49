/- Texts of this claim, put together: Cp4, Ref8, Ref8b, Cp5, Sem14, Cp6, ArrEq, Cp10, Sem14b. -/
import Derived.Test.YtkbaghblchlcnaaD14
import Derived.WalkSmall
import Derived.OwnWalk
import Derived.Laws.ResultCell
import Derived.Test.YtkbaghblchlcnaaD01
import Derived.Test.YtkbaghblchlcnaaProg
import Derived.ChangeKeysEq
import Derived.Test.YtkbaghblchlcnaaD11
namespace Go.Proofs.Ytkbaghblchlcnaa
open Go.RowKit Go.Shelf
attribute [local go_sem] Oper.semAt_some cell_row frozen_row isRow_setCell_eq rowAt_setCell_same rowAt_setCell_other isRow_alloc_eq rowAt_alloc rowAt_new isRow_setRow_eq rowAt_setRow_same rowAt_setRow_other isRow_drew rowAt_drew size_setRow_ Lb_size Lb_at blk_ptr aggOf_agg below_alloc_r below_setCell_r below_setRow_r below_drew_r le_add_r
def takeB (m p0 p1 : Int) (o0 o1 : Bool) (a b pr gr : Int) (is : Bool) (gp : Int) : Bool := mayP m p0 p1 o0 o1 a b pr gr is && gr == gp
def levP (p0 p1 pr gp : Int) : Int := bits .and .i64 pr (maskP (gp % 2) (ptP p0 p1 gp))
theorem Take_c (g : Nat) (m p0 p1 : Int) (o0 o1 sp : Bool) (a b : Int) (e0 e1 : Value) (id pr gr : Int) (is : Bool) (gp : Int) (w : World) (hr : isRow w g) (hr' : rowAt w g = #[.int .i64 m, .int .i64 p0, .int .i64 p1, .bool o0, .bool o1, .bool sp, .int .u32 a, .int .u32 b, e0, e1]) :
    Calls Try.prog 39 #[.pointer (some ⟨g, 0, none⟩), .agg #[.int .i64 id, .int .i64 pr, .int .i64 gr, .bool is], .int .i64 gp] w fun e w' => e = .returned (.tuple #[.int .i64 (if takeB m p0 p1 o0 o1 a b pr gr is gp then id else 1023), .bool (takeB m p0 p1 o0 o1 a b pr gr is gp)]) ∧
      Row w' g #[.int .i64 m, .int .i64 p0, .int .i64 p1, .bool o0, .bool o1, .bool sp, .int .u32 (if takeB m p0 p1 o0 o1 a b pr gr is gp then setA .or a gp (levP p0 p1 pr gp) else a), .int .u32 (if takeB m p0 p1 o0 o1 a b pr gr is gp then setB .or b gp (levP p0 p1 pr gp) else b), e0, e1] ∧ Aside g w w' := by
  cases hm : mayP m p0 p1 o0 o1 a b pr gr is with
  | false =>
    have ht : takeB m p0 p1 o0 o1 a b pr gr is gp = false := by unfold takeB; rw [hm]; rfl
    rw [ht]
    exact (Take_no1 g m p0 p1 o0 o1 sp a b e0 e1 id pr gr is gp w hr hr' hm).mono fun e w' ⟨h1, h2⟩ => ⟨h1, Row.step hr hr' h2, Aside.of_below h2⟩
  | true =>
    by_cases hg : gr = gp
    · subst hg
      have ht : takeB m p0 p1 o0 o1 a b pr gr is gr = true := by unfold takeB; rw [hm]; simp
      rw [ht]
      exact Take_yes g m p0 p1 o0 o1 sp a b e0 e1 id pr gr is w hr hr' hm _ rfl _ _ rfl rfl
    · have ht : takeB m p0 p1 o0 o1 a b pr gr is gp = false := by unfold takeB; rw [hm]; simp [hg]
      rw [ht]
      exact (Take_no2 g m p0 p1 o0 o1 sp a b e0 e1 id pr gr is gp w hr hr' hm (by simp [bne, hg])).mono fun e w' ⟨h1, h2⟩ => ⟨h1, Row.step hr hr' h2, Aside.of_below h2⟩
def dropB' (a b gp : Int) : Bool := !((top a b).1 == 255) && (top a b).2 == gp
set_option maxRecDepth 100000 in
set_option maxHeartbeats 2000000 in
theorem IfDrop_c (g : Nat) (m p0 p1 : Int) (o0 o1 sp : Bool) (a b : Int) (e0 e1 : Value) (gp : Int) (w : World) (hr : isRow w g) (hr' : rowAt w g = #[.int .i64 m, .int .i64 p0, .int .i64 p1, .bool o0, .bool o1, .bool sp, .int .u32 a, .int .u32 b, e0, e1]) :
    Calls Try.prog 48 #[.pointer (some ⟨g, 0, none⟩), .int .i64 gp] w fun e w' => e = .returned (.bool (dropB' a b gp)) ∧ Row w' g #[.int .i64 m, .int .i64 p0, .int .i64 p1, .bool o0, .bool o1, .bool sp, .int .u32 (if dropB' a b gp then dropA a b else a), .int .u32 (if dropB' a b gp then dropB a b else b), e0, e1] ∧ Aside g w w' := by
  have HR := Lib.hid (fun W : World => ifrun_c m p0 p1 o0 o1 sp a b W)
  have HD := Lib.hid (fun W : World => Drop_c a b W)
  unfold dropB'
  generalize (top a b).1 = r1 at *
  generalize (top a b).2 = r2 at *
  generalize dropA a b = x at *
  generalize dropB a b = y at *
  generalize some? a b = z at *
  by_cases h1 : r1 = 255
  · subst h1
    have HE := Lib.hid (show (!((255 : Int) == 255) && r2 == gp) = false by simp)
    rw [HE.out]
    go_enter Try.func48, Try.ntmps48
    go_wp2_with (go_at_call 41; refine (HR.out _).mono ?_; rintro e w1 ⟨rfl, hb⟩)
    go_ret
    exact ⟨rfl, Row.step hr hr' hb, Aside.of_below hb⟩
  · have e1 : (r1 == 255) = false := by simpa using h1
    by_cases h2 : r2 = gp
    · subst h2
      have HE := Lib.hid (show (!(r1 == 255) && r2 == r2) = true by simp [h1])
      rw [HE.out]
      clear h1
      go_enter Try.func48, Try.ntmps48
      go_wp2_with (first | (go_at_call 41; refine (HR.out _).mono ?_; rintro e w1 ⟨rfl, hb⟩; obtain ⟨Q0, Q0'⟩ := Row.step hr hr' hb) | (go_at_call 73; refine (HD.out _).mono ?_; rintro e w2 ⟨rfl, hb2⟩; obtain ⟨Q1, Q1'⟩ := Row.step Q0 Q0' hb2))
      go_ret
      exact ⟨rfl, ⟨by go_simp, by go_simp⟩, ((Aside.of_below (bk hb hb.size hb2)).setCell _).setCell _⟩
    · have e2 : (r2 != gp) = true := by simp [bne, h2]
      have HE := Lib.hid (show (!(r1 == 255) && r2 == gp) = false by simp [h2])
      rw [HE.out]
      clear h1 h2
      go_enter Try.func48, Try.ntmps48
      go_wp2_with (go_at_call 41; refine (HR.out _).mono ?_; rintro e w1 ⟨rfl, hb⟩)
      go_ret
      exact ⟨rfl, Row.step hr hr' hb, Aside.of_below hb⟩
theorem bit_c (x : Bool) (w : World) : Calls Try.prog 77 #[.bool x] w fun e w' => e = .returned (.int .u64 (if x then 1 else 0)) ∧ w = w' := by
  cases x
  · go_enter Try.func77, Try.ntmps77
    go_wp2
    go_ret
    exact ⟨rfl, rfl⟩
  · go_enter Try.func77, Try.ntmps77
    go_wp2
    go_ret
    exact ⟨rfl, rfl⟩
/-- what is read of a register, and whether it can be -/
def rdN (r m p0 p1 : Int) (o0 o1 sp : Bool) (a b : Int) : Int :=
  if r = 6 then IntKind.u64.wrap m else if r = 7 then IntKind.u64.wrap p0 else if r = 8 then IntKind.u64.wrap (if p1 < 1 then 1 else p1) else if r = 9 then (if sp then 2 else 0) else if r = 10 then (if o0 then 1 else 0) else if r = 11 then (if o1 then 1 else 0) else if r = 12 then IntKind.u64.wrap (top a b).1 else 0
def rdOk (r : Int) : Bool := r == 6 || r == 7 || r == 8 || r == 9 || r == 10 || r == 11 || r == 12
set_option maxRecDepth 100000 in
set_option maxHeartbeats 4000000 in
theorem Read_c (m p0 p1 : Int) (o0 o1 sp : Bool) (a b : Int) (r : Int) (w : World) : Calls Try.prog 55 #[.agg #[.int .i64 m, .int .i64 p0, .int .i64 p1, .bool o0, .bool o1, .bool sp, .int .u32 a, .int .u32 b], .int .i64 r] w fun e w' => e = .returned (.tuple #[.int .u64 (rdN r m p0 p1 o0 o1 sp a b), .bool (rdOk r)]) ∧ Below w.heap.size w w' := by
  have hB0 : ∀ vs, Below w.heap.size w (w.alloc (.cells vs 35)) := fun vs => (Below.refl _ w).alloc (Nat.le_refl _) _
  have HR := Lib.hid (fun W : World => ifrun_c m p0 p1 o0 o1 sp a b W)
  have HBT := Lib.hid (fun (x : Bool) (W : World) => bit_c x W)
  unfold rdN
  generalize (top a b).1 = r1 at *
  generalize (top a b).2 = r2 at *
  by_cases h6 : r = 6
  · subst h6
    go_enter Try.func55, Try.ntmps55
    go_wp2_with (first | (go_at_call 77; refine (HBT.out _ _).mono ?_; rintro e w1 ⟨rfl, rfl⟩) | (go_at_call 41; refine (HR.out _).mono ?_; rintro e w1 ⟨rfl, hb⟩))
    go_ret2
    first | exact ⟨rfl, hB0 _⟩ | exact ⟨rfl, bk (hB0 _) (hB0 _).size hb⟩
  by_cases h7 : r = 7
  · subst h7
    go_enter Try.func55, Try.ntmps55
    go_wp2_with (first | (go_at_call 77; refine (HBT.out _ _).mono ?_; rintro e w1 ⟨rfl, rfl⟩) | (go_at_call 41; refine (HR.out _).mono ?_; rintro e w1 ⟨rfl, hb⟩))
    go_ret2
    first | exact ⟨rfl, hB0 _⟩ | exact ⟨rfl, bk (hB0 _) (hB0 _).size hb⟩
  by_cases h8 : r = 8
  · subst h8
    by_cases hp : p1 < 1
    · rw [if_pos hp]
      go_enter Try.func55, Try.ntmps55
      go_wp2_with (first | (go_at_call 77; refine (HBT.out _ _).mono ?_; rintro e w1 ⟨rfl, rfl⟩) | (go_at_call 41; refine (HR.out _).mono ?_; rintro e w1 ⟨rfl, hb⟩))
      go_ret2
      first | exact ⟨rfl, hB0 _⟩ | exact ⟨rfl, bk (hB0 _) (hB0 _).size hb⟩
    · rw [if_neg hp]
      by_cases hp1 : p1 = 1
      · subst hp1
        go_enter Try.func55, Try.ntmps55
        go_wp2_with (first | (go_at_call 77; refine (HBT.out _ _).mono ?_; rintro e w1 ⟨rfl, rfl⟩) | (go_at_call 41; refine (HR.out _).mono ?_; rintro e w1 ⟨rfl, hb⟩))
        go_ret2
        first | exact ⟨rfl, hB0 _⟩ | exact ⟨rfl, bk (hB0 _) (hB0 _).size hb⟩
      · have hp2 : 1 < p1 := by omega
        go_enter Try.func55, Try.ntmps55
        go_wp2_with (first | (go_at_call 77; refine (HBT.out _ _).mono ?_; rintro e w1 ⟨rfl, rfl⟩) | (go_at_call 41; refine (HR.out _).mono ?_; rintro e w1 ⟨rfl, hb⟩))
        go_ret2
        first | exact ⟨rfl, hB0 _⟩ | exact ⟨rfl, bk (hB0 _) (hB0 _).size hb⟩
  by_cases h9 : r = 9
  · subst h9
    cases sp
    · go_enter Try.func55, Try.ntmps55
      go_wp2_with (first | (go_at_call 77; refine (HBT.out _ _).mono ?_; rintro e w1 ⟨rfl, rfl⟩) | (go_at_call 41; refine (HR.out _).mono ?_; rintro e w1 ⟨rfl, hb⟩))
      go_ret2
      first | exact ⟨rfl, hB0 _⟩ | exact ⟨rfl, bk (hB0 _) (hB0 _).size hb⟩
    · go_enter Try.func55, Try.ntmps55
      go_wp2_with (first | (go_at_call 77; refine (HBT.out _ _).mono ?_; rintro e w1 ⟨rfl, rfl⟩) | (go_at_call 41; refine (HR.out _).mono ?_; rintro e w1 ⟨rfl, hb⟩))
      go_ret2
      first | exact ⟨rfl, hB0 _⟩ | exact ⟨rfl, bk (hB0 _) (hB0 _).size hb⟩
  by_cases h10 : r = 10
  · subst h10
    cases o0
    · go_enter Try.func55, Try.ntmps55
      go_wp2_with (first | (go_at_call 77; refine (HBT.out _ _).mono ?_; rintro e w1 ⟨rfl, rfl⟩) | (go_at_call 41; refine (HR.out _).mono ?_; rintro e w1 ⟨rfl, hb⟩))
      go_ret2
      first | exact ⟨rfl, hB0 _⟩ | exact ⟨rfl, bk (hB0 _) (hB0 _).size hb⟩
    · go_enter Try.func55, Try.ntmps55
      go_wp2_with (first | (go_at_call 77; refine (HBT.out _ _).mono ?_; rintro e w1 ⟨rfl, rfl⟩) | (go_at_call 41; refine (HR.out _).mono ?_; rintro e w1 ⟨rfl, hb⟩))
      go_ret2
      first | exact ⟨rfl, hB0 _⟩ | exact ⟨rfl, bk (hB0 _) (hB0 _).size hb⟩
  by_cases h11 : r = 11
  · subst h11
    cases o1
    · go_enter Try.func55, Try.ntmps55
      go_wp2_with (first | (go_at_call 77; refine (HBT.out _ _).mono ?_; rintro e w1 ⟨rfl, rfl⟩) | (go_at_call 41; refine (HR.out _).mono ?_; rintro e w1 ⟨rfl, hb⟩))
      go_ret2
      first | exact ⟨rfl, hB0 _⟩ | exact ⟨rfl, bk (hB0 _) (hB0 _).size hb⟩
    · go_enter Try.func55, Try.ntmps55
      go_wp2_with (first | (go_at_call 77; refine (HBT.out _ _).mono ?_; rintro e w1 ⟨rfl, rfl⟩) | (go_at_call 41; refine (HR.out _).mono ?_; rintro e w1 ⟨rfl, hb⟩))
      go_ret2
      first | exact ⟨rfl, hB0 _⟩ | exact ⟨rfl, bk (hB0 _) (hB0 _).size hb⟩
  by_cases h12 : r = 12
  · subst h12
    go_enter Try.func55, Try.ntmps55
    go_wp2_with (first | (go_at_call 77; refine (HBT.out _ _).mono ?_; rintro e w1 ⟨rfl, rfl⟩) | (go_at_call 41; refine (HR.out _).mono ?_; rintro e w1 ⟨rfl, hb⟩))
    go_ret2
    first | exact ⟨rfl, hB0 _⟩ | exact ⟨rfl, bk (hB0 _) (hB0 _).size hb⟩
  have e6 : (r == 6) = false := by simpa using h6
  have e7 : (r == 7) = false := by simpa using h7
  have e8 : (r == 8) = false := by simpa using h8
  have e9 : (r == 9) = false := by simpa using h9
  have e10 : (r == 10) = false := by simpa using h10
  have e11 : (r == 11) = false := by simpa using h11
  have e12 : (r == 12) = false := by simpa using h12
  have HE := Lib.hid (show rdOk r = false by unfold rdOk; rw [e6, e7, e8, e9, e10, e11, e12]; rfl)
  rw [if_neg h6, if_neg h7, if_neg h8, if_neg h9, if_neg h10, if_neg h11, if_neg h12, HE.out]
  clear h6 h7 h8 h9 h10 h11 h12
  go_enter Try.func55, Try.ntmps55
  go_wp2_with (first | (go_at_call 77; refine (HBT.out _ _).mono ?_; rintro e w1 ⟨rfl, rfl⟩) | (go_at_call 41; refine (HR.out _).mono ?_; rintro e w1 ⟨rfl, hb⟩))
  go_ret2
  first | exact ⟨rfl, hB0 _⟩ | exact ⟨rfl, bk (hB0 _) (hB0 _).size hb⟩
end Go.Proofs.Ytkbaghblchlcnaa
namespace Go.Proofs.Ytkbaghblchlcnaa
open Go.RowKit Go.Shelf
attribute [local go_sem] Oper.semAt_some
theorem infoL : (Try.prog.info? 105).map (·.size) = some 64 := by kernel_rfl
theorem load_lad {ops : Array Oper} {rest : List Oper} {o : Oper} {a : Act} {w : World} {Q : Exit → Act → World → Prop} (hgd : o.guard = none) (x : Operand) (ho : o.op = .load 105 x)
    (g : Nat) (hx : a.eval x = .pointer (some ⟨g, 0, none⟩)) (t : TypeId) (f : Nat → Bool) (hg : BoxN w g t (Lb f))
    (h : wpList Try.prog ops Q rest (a.put o.dst (.agg (Lb f))) w) : wpList Try.prog ops Q (o :: rest) a w :=
  wpList_load_row hgd _ x ho g hx t _ (0, 0) _ hg Try.underlying105 rfl (by rw [Lb_size]; exact infoL) h
theorem store_lad {ops : Array Oper} {rest : List Oper} {o : Oper} {a : Act} {w : World} {Q : Exit → Act → World → Prop} (hgd : o.guard = none) (x y : Operand) (ho : o.op = .store 105 x y)
    (g : Nat) (f f0 : Nat → Bool) (hx : a.eval x = .pointer (some ⟨g, 0, none⟩)) (hy : a.eval y = .agg (Lb f)) (t : TypeId) (hg : BoxN w g t (Lb f0))
    (h : wpList Try.prog ops Q rest (a.put o.dst undef) (w.setRow g (Lb f))) : wpList Try.prog ops Q (o :: rest) a w :=
  wpList_store_row hgd _ x y ho g _ hx hy t _ hg (by rw [Lb_size]; exact infoL) (by rw [Lb_size, Lb_size]) (Lb_one f) h
theorem load_lad' {ops : Array Oper} {rest : List Oper} {d : Option Tmp} {ty : TypeId} {pos : String} {af : Array Edge} {x : Operand} {a : Act} {w : World} {Q : Exit → Act → World → Prop} {g : Nat} {t : TypeId} {f : Nat → Bool}
    (hx : a.eval x = .pointer (some ⟨g, 0, none⟩)) (hg : BoxN w g t (Lb f)) (h : wpList Try.prog ops Q rest (a.put d (.agg (Lb f))) w) :
    wpList Try.prog ops Q ({ dst := d, op := .load 105 x, type := ty, pos := pos, after := af, guard := none } :: rest) a w := load_lad rfl x rfl g hx t f hg h
theorem store_lad' {ops : Array Oper} {rest : List Oper} {d : Option Tmp} {ty : TypeId} {pos : String} {af : Array Edge} {x y : Operand} {a : Act} {w : World} {Q : Exit → Act → World → Prop} {g : Nat} {t : TypeId} {f f0 : Nat → Bool}
    (hx : a.eval x = .pointer (some ⟨g, 0, none⟩)) (hy : a.eval y = .agg (Lb f)) (hg : BoxN w g t (Lb f0)) (h : wpList Try.prog ops Q rest (a.put d undef) (w.setRow g (Lb f))) :
    wpList Try.prog ops Q ({ dst := d, op := .store 105 x y, type := ty, pos := pos, after := af, guard := none } :: rest) a w := store_lad rfl x y rfl g f f0 hx hy t hg h
theorem res_lad {fn : Func} {p u : Tmp} (h : fn.results = #[.cell p 105, .tmp u]) (tmps : Array Value) (w : World) (g : Nat) (t : TypeId) (f : Nat → Bool) (hp : tmps.getD p undef = .pointer (some ⟨g, 0, none⟩)) (hg : BoxN w g t (Lb f)) (v : Value) (hv : tmps.getD u undef = v) :
    (results fn tmps).run Try.prog w = .ok (.tuple #[.agg (Lb f), v]) w := by
  rw [results_cell_tmp h tmps Try.prog w, hp]
  simp only [asAddr, Sem.run_pure, Result.andThen_ok, run_loadVar_row w g t 105 (Lb f) (0, 0) _ hg Try.underlying105 rfl (by rw [Lb_size]; exact infoL), hv]
set_option maxRecDepth 100000 in
set_option maxHeartbeats 2000000 in
theorem rOf_c (a b : Int) (ha : 0 ≤ a) (ha' : a ≤ 4294967295) (hb : 0 ≤ b) (hb' : b ≤ 4294967295) (w : World) : Calls Try.prog 78 #[.int .u32 a, .int .u32 b] w fun e w' => e = .returned (.agg (Lb (rb a b))) ∧ Below w.heap.size w w' := by
  go_enter Try.func78, Try.ntmps78
  go_wp2
  rw [← Lb_false]
  have hB0 : Below w.heap.size w ((w.alloc (.cells (Lb fun _ => false) 105)).alloc (.cells (Lb fun _ => false) 105)) := ((Below.refl _ w).alloc (Nat.le_refl _) _).alloc (by simp) _
  have b0 : BoxN ((w.alloc (.cells (Lb fun _ => false) 105)).alloc (.cells (Lb fun _ => false) 105)) w.heap.size 105 (Lb fun _ => false) := (BoxN.new w 105 _).alloc _
  have b1 : BoxN ((w.alloc (.cells (Lb fun _ => false) 105)).alloc (.cells (Lb fun _ => false) 105)) (w.heap.size + 1) 105 (Lb fun _ => false) := by
    have := BoxN.new (w.alloc (.cells (Lb fun _ => false) 105)) 105 (Lb fun _ => false); rwa [World.size_alloc] at this
  generalize (w.alloc (.cells (Lb fun _ => false) 105)).alloc (.cells (Lb fun _ => false) 105) = W0 at *
  go_loopw [0, 1, 6] (fun p q r wr => ∃ k : Nat, k ≤ 32 ∧ p = .int .u32 (a / 2 ^ k) ∧ q = .int .u32 (b / 2 ^ k) ∧ r = .int .i64 k ∧ BoxN wr w.heap.size 105 (Lb fun _ => false) ∧ BoxN wr (w.heap.size + 1) 105 (Lb fun i => decide (i < 2 * k) && rb a b i) ∧ Below w.heap.size w wr) (fun _ _ r _ => 32 - (intOf r).toNat)
  case atStart => exact ⟨0, by omega, by simp, by simp, rfl, b0, by simpa using b1, hB0⟩
  case round =>
    clear b0 b1 hB0
    obtain ⟨k, hk, rfl, rfl, rfl, b0, b1, hB⟩ := hrel
    have hra := half_range a k ha ha'
    have hrb := half_range b k hb hb'
    have HA := Lib.hid (half_bit a k)
    have HB := Lib.hid (half_bit b k)
    have HSA := Lib.hid (half_step a k)
    have HSB := Lib.hid (half_step b k)
    obtain ⟨hra0, hra1⟩ := hra
    obtain ⟨hrb0, hrb1⟩ := hrb
    generalize a / 2 ^ k = x at *
    generalize b / 2 ^ k = y at *
    by_cases hlt : k < 32
    · have c1 := b1.cell (i := 2 * k) (Lb_get _ _ (by omega))
      have c2 := b1.cell (i := 2 * k + 1) (Lb_get _ _ (by omega))
      have f1 := b1.frozen (2 * k)
      have f2 := b1.frozen (2 * k + 1)
      go_wp2
      go_roundw
      case rel =>
        refine ⟨k + 1, by omega, by rw [HSA.out], by rw [HSB.out], by go_num, boxN_other (boxN_other b0 _ (by simp) _) _ (by simp) _, ?_, (hB.setCell (p := ⟨w.heap.size + 1, 2 * k, none⟩) (by simp) _).setCell (p := ⟨w.heap.size + 1, 2 * k + 1, none⟩) (by simp) _⟩
        have z := boxN_setCell (boxN_setCell b1 (2 * k) (.bool (x % 2 == 1))) (2 * k + 1) (.bool (y % 2 == 1))
        rw [HA.out, HB.out, Lb_set, Lb_set] at z
        rw [HA.out, HB.out]
        rwa [Lb_ext (g := fun i => decide (i < 2 * (k + 1)) && rb a b i)] at z
        intro i hi
        by_cases e1 : i = 2 * k + 1
        · subst e1; simp [rb, show (2 * k + 1) % 2 = 1 by omega, show (2 * k + 1) / 2 = k by omega]; intro _; omega
        · by_cases e2 : i = 2 * k
          · subst e2; simp [rb]
          · simp only [e1, e2, if_false]
            congr 1
            exact decide_eq_decide.2 (by omega)
      case measure => simp [intOf]; omega
    · have b1' : BoxN wr (w.heap.size + 1) 105 (Lb (rb a b)) := by rwa [Lb_ext (g := rb a b) (fun i hi => by simp; omega)] at b1
      go_wp2_with (first | ((with_reducible apply load_lad'); exact rfl; (with_reducible assumption)) | ((with_reducible apply store_lad'); exact rfl; exact rfl; (with_reducible assumption)))
      exact bodyPost_ret (v := .agg (Lb (rb a b))) (results_cell_row rfl _ _ w.heap.size _ _ (0, 0) _ rfl (boxN_row b0) Try.underlying105 rfl (by rw [Lb_size]; exact infoL)) rfl ⟨rfl, below_row hB (Nat.le_refl _) _⟩
theorem shr_step (p : Int) (i : Nat) (h3 : 3 ≤ i) : p % 2 ^ (i + 1) / 8 = p % 2 ^ i / 8 + if p / 2 ^ i % 2 = 1 then 2 ^ (i - 3) else 0 := by
  obtain ⟨j, rfl⟩ : ∃ j, i = j + 3 := ⟨i - 3, by omega⟩
  have e1 : (2 : Int) ^ (j + 3) = 8 * 2 ^ j := by rw [Int.pow_add]; omega
  have hp : (2 : Int) ^ j > 0 := Int.pow_pos (by decide)
  have e2 : p % 2 ^ (j + 3 + 1) = p % 2 ^ (j + 3) + 2 ^ (j + 3) * (p / 2 ^ (j + 3) % 2) := by
    have h1 := Int.emod_add_mul_ediv p (2 ^ (j + 3 + 1))
    have h2 := Int.emod_add_mul_ediv p (2 ^ (j + 3))
    have h3 : p / 2 ^ (j + 3 + 1) = p / 2 ^ (j + 3) / 2 := by rw [Int.pow_succ, Int.ediv_ediv_of_nonneg (by omega)]
    have h4 := Int.emod_add_mul_ediv (p / 2 ^ (j + 3)) 2
    rw [h3] at h1
    rw [Int.pow_succ] at h1 ⊢
    generalize (2 : Int) ^ (j + 3) = P at *
    generalize p / P = q at *
    have : P * 2 * (q / 2) = P * q - P * (q % 2) := by
      rw [← Int.mul_sub, Int.mul_assoc]; congr 1; omega
    omega
  rw [e2, e1, show j + 3 - 3 = j by omega]
  generalize (2 : Int) ^ j = P at *
  split
  · rename_i h; rw [h]; omega
  · rename_i h; rw [show p / (8 * P) % 2 = 0 by omega]; omega
set_option maxRecDepth 100000 in
set_option maxHeartbeats 2000000 in
theorem place_c (g p : Int) (w : World) : Calls Try.prog 106 #[.int .i64 g, .int .i64 p] w fun e w' => e = .returned (.int .i64 (2 * (pl p : Int) + g % 2)) ∧ w = w' := by
  have hpl : p % 256 / 8 = (pl p : Int) := by unfold pl; omega
  have hl := pl_lt p
  generalize pl p = j at *
  have HPL := Lib.hid hpl
  clear hpl
  go_enter Try.func106, Try.ntmps106
  go_wp2
  go_loop [5, 6] (fun n i => ∃ k : Nat, 3 ≤ k ∧ k ≤ 8 ∧ i = .int .i64 k ∧ n = .int .i64 (p % 2 ^ k / 8)) (fun _ i => 8 - (intOf i).toNat)
  case atStart => exact ⟨3, by omega, by omega, rfl, by go_num⟩
  case round =>
    obtain ⟨k, hk3, hk, rfl, rfl⟩ := hrel
    by_cases hlt : k < 8
    · have HS := Lib.hid (shr_step p k hk3)
      have h1 := and1 (p / 2 ^ k)
      have hp0 : 0 ≤ p % 2 ^ k / 8 := Int.ediv_nonneg (Int.emod_nonneg _ (by have := Int.pow_pos (n := 2) (m := k) (by decide); omega)) (by omega)
      have hp1 : p % 2 ^ k / 8 ≤ 1000 := by
        have h := Int.emod_lt_of_pos p (show (0 : Int) < 2 ^ k from Int.pow_pos (by decide))
        have : (2 : Int) ^ k ≤ 2 ^ 8 := by have := Nat.pow_le_pow_right (n := 2) (by decide) hk; exact_mod_cast this
        omega
      by_cases hb : p / 2 ^ k % 2 = 1
      · rw [if_pos hb] at HS
        rw [hb] at h1
        clear hb
        have hq0 : (0 : Int) ≤ 2 ^ (k - 3) := Int.le_of_lt (Int.pow_pos (by decide))
        have hq1 : (2 : Int) ^ (k - 3) ≤ 1000 := by
          have h : (2 : Int) ^ (k - 3) ≤ 2 ^ 5 := by have := Nat.pow_le_pow_right (n := 2) (by decide) (show k - 3 ≤ 5 by omega); exact_mod_cast this
          omega
        generalize p % 2 ^ k / 8 = m at *
        go_wp2
        go_round
        case rel => exact ⟨k + 1, by omega, by omega, by go_num, by rw [HS.out]⟩
        case measure => simp [intOf]; omega
      · have hb' : p / 2 ^ k % 2 = 0 := by omega
        rw [if_neg hb] at HS
        rw [hb'] at h1
        clear hb hb'
        generalize p % 2 ^ k / 8 = m at *
        go_wp2
        go_round
        case rel => exact ⟨k + 1, by omega, by omega, by go_num, by rw [HS.out, Int.add_zero]⟩
        case measure => simp [intOf]; omega
    · have hk8 : k = 8 := by omega
      have HP := Lib.hid (show p % 2 ^ k / 8 = (j : Int) by subst hk8; exact HPL.out)
      have h1 := and1 g
      clear hk8
      rw [HP.out]
      clear HP
      go_wp2
      go_ret
      exact ⟨rfl, rfl⟩
/-- where a priority of a group stands -/
def spot (g p : Int) : Nat := 2 * pl p + (g % 2).toNat
theorem spot_lt (g p : Int) : spot g p < 64 := by have := pl_lt p; unfold spot; omega
theorem spot_c (g p : Int) (w : World) : Calls Try.prog 106 #[.int .i64 g, .int .i64 p] w fun e w' => e = .returned (.int .i64 (spot g p : Nat)) ∧ w = w' :=
  (place_c g p w).mono fun e w' ⟨h1, h2⟩ => ⟨by rw [h1]; congr 2; unfold spot; omega, h2⟩
set_option maxRecDepth 100000 in
set_option maxHeartbeats 2000000 in
theorem rSet_c (f : Nat → Bool) (g p : Int) (is : Bool) (w : World) : Calls Try.prog 101 #[.agg (Lb f), .int .i64 g, .int .i64 p, .bool is] w fun e w' => e = .returned (.agg (Lb fun j => if j = spot g p then is else f j)) ∧ Below w.heap.size w w' := by
  have hs := spot_lt g p
  have hS := spot_c g p
  generalize spot g p = j at *
  have HS := Lib.hid hS
  clear hS
  go_enter Try.func101, Try.ntmps101
  go_wp2_with fail
  rw [← Lb_false]
  have hB0 : Below w.heap.size w ((w.alloc (.cells (Lb f) 105)).alloc (.cells (Lb fun _ => false) 105)) := ((Below.refl _ w).alloc (Nat.le_refl _) _).alloc (by simp) _
  have b0 : BoxN ((w.alloc (.cells (Lb f) 105)).alloc (.cells (Lb fun _ => false) 105)) w.heap.size 105 (Lb f) := (BoxN.new w 105 _).alloc _
  have b1 : BoxN ((w.alloc (.cells (Lb f) 105)).alloc (.cells (Lb fun _ => false) 105)) (w.heap.size + 1) 105 (Lb fun _ => false) := by
    have := BoxN.new (w.alloc (.cells (Lb f) 105)) 105 (Lb fun _ => false); rwa [World.size_alloc] at this
  generalize (w.alloc (.cells (Lb f) 105)).alloc (.cells (Lb fun _ => false) 105)  = W0 at *
  have c0 := b0.cell (i := j) (Lb_get _ _ hs)
  have f0 := b0.frozen j
  have b0' : BoxN (W0.setCell ⟨w.heap.size, j, none⟩ (.bool is)) w.heap.size 105 (Lb fun i => if i = j then is else f i) := by rw [← Lb_set]; exact boxN_setCell b0 j (.bool is)
  have b1' : BoxN (W0.setCell ⟨w.heap.size, j, none⟩ (.bool is)) (w.heap.size + 1) 105 (Lb fun _ => false) := boxN_other b1 _ (by simp) _
  go_wp2_with (first | (go_at_call 106; refine (HS.out _).mono ?_; rintro e w' ⟨rfl, rfl⟩) | ((with_reducible apply load_lad'); exact rfl; (with_reducible assumption)) | ((with_reducible apply store_lad'); exact rfl; exact rfl; (with_reducible assumption)))
  exact bodyPost_ret (v := .agg (Lb fun i => if i = j then is else f i)) (results_cell_row rfl _ _ (w.heap.size + 1) _ _ (0, 0) _ rfl (boxN_row b1') Try.underlying105 rfl (by rw [Lb_size]; exact infoL)) rfl ⟨rfl, below_row (hB0.setCell (p := ⟨w.heap.size, j, none⟩) (by simp) _) (by omega) _⟩
theorem own_base {W : World} {n₀ : Nat} {e : TypeId} {size : Nat} {v : Value} {k : Nat} {xs : List Value} (hrow : W.ownsRow n₀ e size v k xs) : ∀ j, v.ownBlock = some j → n₀ ≤ j := by
  intro j hj
  rcases hrow.2 with ⟨rfl, _⟩ | ⟨g, cap, cur, rfl, hb, _, _⟩
  · simp [Value.ownBlock] at hj
  · obtain rfl : g = j := by simpa [Value.ownBlock] using hj
    exact hb
theorem own_below {W w1 : World} {n₀ : Nat} {e : TypeId} {size : Nat} {v : Value} {k : Nat} {xs : List Value} {tmp : Obj} (hrow : W.ownsRow n₀ e size v k xs) (hn : n₀ ≤ W.heap.size) (hgrow : (W.alloc tmp).grownBy w1 v.ownBlock) : Below n₀ W w1 :=
  ((Below.refl n₀ W).alloc hn tmp).grown hgrow (by simp; omega) (own_base hrow)
theorem rinfo3 : (Try.prog.info? 3).map (fun i => (i.zero, i.size, i.bytes)) = some (some (.int .i64 0), 1, 8) := by kernel_rfl
def flat' (l : List (Int × Int)) : List Int := l.flatMap fun x => [x.1, x.2]
theorem flat'_snoc (l : List (Int × Int)) (x : Int × Int) : flat' (l ++ [x]) = flat' l ++ [x.1, x.2] := by simp [flat']
theorem flat'_length (l : List (Int × Int)) : (flat' l).length = 2 * l.length := by
  induction l with
  | nil => rfl
  | cons x l ih => simp [flat'] at ih ⊢; omega
theorem upto_length (a b : Int) (n : Nat) : (allUpto a b n).length ≤ n := by
  induction n with
  | zero => simp [allUpto]
  | succ n ih =>
    have : (cell a b n).length ≤ 1 := by unfold cell; split <;> simp
    rw [allUpto, List.length_append]; omega
set_option maxRecDepth 100000 in
set_option maxHeartbeats 2000000 in
theorem rAll_c (a b : Int) (w : World) : Calls Try.prog 103 #[.agg (Lb (rb a b))] w fun e w' => ∃ v, e = .returned v ∧ w'.ownsRow w.heap.size 3 1 v (flat' (allL a b)).length ((flat' (allL a b)).map (Value.int .i64)) ∧ Below w.heap.size w w' := by
  obtain ⟨i0, hi, hz0, hz1, hz2⟩ := info_parts rinfo3
  go_enter Try.func103, Try.ntmps103
  go_wp2_with fail
  have hB0 : Below w.heap.size w (w.alloc (.cells (Lb (rb a b)) 105)) := ((Below.refl _ w).alloc (Nat.le_refl _) _)
  have b0 : BoxN (w.alloc (.cells (Lb (rb a b)) 105)) w.heap.size 105 (Lb (rb a b)) := BoxN.new w 105 _
  have hz : (w.alloc (.cells (Lb (rb a b)) 105)).heap.size = w.heap.size + 1 := by simp
  generalize w.alloc (.cells (Lb (rb a b)) 105) = W0 at *
  go_loopw [3, 4] (fun v i wr => ∃ k : Nat, k ≤ 64 ∧ i = .int .i64 k ∧ wr.ownsRow (w.heap.size + 1) 3 1 v (flat' (allUpto a b k)).length ((flat' (allUpto a b k)).map (Value.int .i64)) ∧ BoxN wr w.heap.size 105 (Lb (rb a b)) ∧ Below w.heap.size w wr) (fun _ i _ => 64 - (intOf i).toNat)
  case atStart => exact ⟨0, by omega, rfl, World.ownsRow_nil _ _ _ _, b0, hB0⟩
  case round =>
    clear b0 hB0 hz
    obtain ⟨k, hk, rfl, hrow, b0, hB⟩ := hrel
    by_cases hlt : k < 64
    · have c0 := b0.cell (i := k) (Lb_get _ _ hlt)
      have hlen := upto_length a b k
      have hfl := flat'_length (allUpto a b k)
      have hsz : w.heap.size + 1 ≤ wr.heap.size := b0.lt
      by_cases hb : rb a b k = true
      · have hup : flat' (allUpto a b (k + 1)) = flat' (allUpto a b k) ++ [((8 * (k / 2 : Nat) : Int)), ((k % 2 : Nat) : Int)] := by
          rw [allUpto, cell, if_pos hb, flat'_snoc]
        have HU := Lib.hid hup
        rw [hb] at c0
        clear hup hb
        have hd : ((k : Int) / 2) = ((k / 2 : Nat) : Int) := by omega
        have hm : ((k : Int) % 2) = ((k % 2 : Nat) : Int) := by omega
        have hq : k / 2 ≤ 32 := by omega
        generalize k / 2 = q at *
        generalize k % 2 = m at *
        go_wp2_with (at_builtin; refine wpList_append_own _ rfl _ _ 71 rfl (w.heap.size + 1) 3 i0 (.int .i64 0) 1 8 Try.underlying71 hi hz0 hz1 hz2 rfl (by decide) _ _ _ rfl (hrow.alloc _) ⟨wr.heap.size, 0, none⟩ 2 2 [.int .i64 (8 * (q : Int)), .int .i64 (m : Int)] rfl rfl (cell_two_new _ _ _ _) (by simp [Value.oneCell']) (by unfold maxLen; omega) (by omega) (by simp; omega) ?_; intro v' w1 hown' hgrow _)
        have hBo := own_below hrow hsz hgrow
        go_roundw
        case rel => exact ⟨k + 1, by omega, by go_num, by rw [HU.out]; simpa using hown', b0.below hBo (by omega), hB.trans (hBo.mono (by omega))⟩
        case measure => simp [intOf]; omega
      · have hup : flat' (allUpto a b (k + 1)) = flat' (allUpto a b k) := by
          rw [allUpto, cell, if_neg hb, List.append_nil]
        have HU := Lib.hid hup
        have hb' : rb a b k = false := by simpa using hb
        rw [hb'] at c0
        clear hup hb hb'
        go_wp2
        go_roundw
        case rel => exact ⟨k + 1, by omega, by go_num, by rw [HU.out]; exact hrow, b0, hB⟩
        case measure => simp [intOf]; omega
    · have hk64 : k = 64 := by omega
      have hr : wr.ownsRow w.heap.size 3 1 u3 (flat' (allL a b)).length ((flat' (allL a b)).map (Value.int .i64)) := by
        subst hk64; exact ownsRow_lower hrow (by omega)
      clear hrow hk64
      have HR := Lib.hid hr
      clear hr
      go_wp2
      go_ret
      exact ⟨_, rfl, HR.out, hB⟩
end Go.Proofs.Ytkbaghblchlcnaa
namespace Go.Proofs.Ytkbaghblchlcnaa
open Go.RowKit Go.Shelf
attribute [local go_sem] Oper.semAt_some
theorem rnone (a b : Int) (h : ∀ j, j < 64 → rb a b j = false) : allL a b = [] := by
  have : ∀ n, n ≤ 64 → allUpto a b n = [] := by
    intro n
    induction n with
    | zero => intro _; rfl
    | succ n ih => intro hn; rw [allUpto, ih (by omega), cell, h n (by omega)]; rfl
  exact this 64 (Nat.le_refl _)
theorem rfirst (a b : Int) (i : Nat) (hi : i < 64) (h : rb a b i = true) (hb : ∀ j, j < i → rb a b j = false) : ∃ post, allL a b = ((8 * (i / 2 : Nat) : Int), ((i % 2 : Nat) : Int)) :: post := by
  obtain ⟨post, hp⟩ := allL_at a b i hi h
  have : ∀ n, n ≤ i → allUpto a b n = [] := by
    intro n
    induction n with
    | zero => intro _; rfl
    | succ n ih => intro hn; rw [allUpto, ih (by omega), cell, hb n (by omega)]; rfl
  rw [this i (Nat.le_refl _)] at hp
  exact ⟨post, hp⟩
theorem rtb_pow (k j : Nat) : tb (2 ^ k) j = decide (j = k) := by
  have h : ((2 : Int) ^ k) = ((2 ^ k : Nat) : Int) := by simp
  rw [h, tb_nat, Nat.testBit_two_pow]
  by_cases e : k = j <;> simp [e, eq_comm]
theorem rb_drop (a b : Int) (i : Nat) (hi : i < 64) (h : rb a b i = true) (hb : ∀ j, j < i → rb a b j = false) (j : Nat) (hj : j < 64) : rb (dropA a b) (dropB a b) j = if j = i then false else rb a b j := by
  obtain ⟨post, hp⟩ := rfirst a b i hi h hb
  unfold dropA dropB
  rw [hp]
  simp only
  rw [show ((8 * (i / 2 : Nat) : Int) / 8).toNat = i / 2 by omega]
  unfold rb
  by_cases hg : i % 2 = 0
  · rw [show ((i % 2 : Nat) : Int) = 0 by omega]
    simp only [if_true]
    by_cases hj2 : j % 2 = 0
    · simp only [hj2, if_true]
      rw [tb_andNot_w _ _ _ (by omega), rtb_pow]
      by_cases e : j = i
      · subst e; simp
      · simp [e, show ¬ j / 2 = i / 2 by omega]
    · simp only [hj2, if_false]
      rw [if_neg (by intro e; subst e; omega)]
  · have hg1 : ((i % 2 : Nat) : Int) = 1 := by omega
    rw [hg1]
    simp only [show ¬ ((1 : Int) = 0) by decide, if_false]
    by_cases hj2 : j % 2 = 0
    · simp only [hj2, if_true]
      rw [if_neg (by intro e; subst e; omega)]
    · simp only [hj2, if_false]
      rw [tb_andNot_w _ _ _ (by omega), rtb_pow]
      by_cases e : j = i
      · subst e; simp
      · simp [e, show ¬ j / 2 = i / 2 by omega]
set_option maxRecDepth 100000 in
set_option maxHeartbeats 400000 in
theorem rDrop_c (a b : Int) (w : World) : Calls Try.prog 104 #[.agg (Lb (rb a b))] w fun e w' => e = .returned (.tuple #[.agg (Lb (rb (dropA a b) (dropB a b))), .bool (some? a b)]) ∧ Below w.heap.size w w' := by
  have hyes : ∀ i, i < 64 → rb a b i = true → (∀ j, j < i → rb a b j = false) → some? a b = true ∧ ∀ j, j < 64 → rb (dropA a b) (dropB a b) j = if j = i then false else rb a b j := fun i hi h hb => by
    obtain ⟨post, hp⟩ := rfirst a b i hi h hb
    exact ⟨by unfold some?; rw [hp]; rfl, rb_drop a b i hi h hb⟩
  have hno : (∀ j, j < 64 → rb a b j = false) → some? a b = false ∧ dropA a b = a ∧ dropB a b = b := fun h => by
    have hn := rnone a b h
    exact ⟨by unfold some?; rw [hn]; rfl, by unfold dropA; rw [hn], by unfold dropB; rw [hn]⟩
  generalize some? a b = s0 at *
  generalize dropA a b = da at *
  generalize dropB a b = db at *
  have HY := Lib.hid hyes
  have HN := Lib.hid hno
  clear hyes hno
  go_enter Try.func104, Try.ntmps104
  go_wp2_with fail
  rw [← Lb_false]
  have hB0 : Below w.heap.size w ((w.alloc (.cells (Lb (rb a b)) 105)).alloc (.cells (Lb fun _ => false) 105)) := ((Below.refl _ w).alloc (Nat.le_refl _) _).alloc (by simp) _
  have b0 : BoxN ((w.alloc (.cells (Lb (rb a b)) 105)).alloc (.cells (Lb fun _ => false) 105)) w.heap.size 105 (Lb (rb a b)) := (BoxN.new w 105 _).alloc _
  have b1 : BoxN ((w.alloc (.cells (Lb (rb a b)) 105)).alloc (.cells (Lb fun _ => false) 105)) (w.heap.size + 1) 105 (Lb fun _ => false) := by
    have := BoxN.new (w.alloc (.cells (Lb (rb a b)) 105)) 105 (Lb fun _ => false); rwa [World.size_alloc] at this
  generalize (w.alloc (.cells (Lb (rb a b)) 105)).alloc (.cells (Lb fun _ => false) 105) = W0 at *
  go_loopw [4] (fun i wr => ∃ k : Nat, k ≤ 64 ∧ i = .int .i64 k ∧ (∀ j, j < k → rb a b j = false) ∧ BoxN wr w.heap.size 105 (Lb (rb a b)) ∧ BoxN wr (w.heap.size + 1) 105 (Lb fun _ => false) ∧ Below w.heap.size w wr) (fun i _ => 64 - (intOf i).toNat)
  case atStart => exact ⟨0, by omega, rfl, by omega, b0, b1, hB0⟩
  case round =>
    clear b0 b1 hB0
    obtain ⟨k, hk, rfl, hlow, b0, b1, hB0⟩ := hrel
    have HL := Lib.hid hlow
    clear hlow
    by_cases hlt : k < 64
    · have c0 := b0.cell (i := k) (Lb_get _ _ hlt)
      have f0 := b0.frozen k
      by_cases hb : rb a b k = true
      · obtain ⟨hs, hd⟩ := HY.out k hlt hb HL.out
        have b0' : BoxN (wr.setCell ⟨w.heap.size, k, none⟩ (.bool false)) w.heap.size 105 (Lb (rb (da) (db))) := by
          rw [Lb_ext hd, ← Lb_set]; exact boxN_setCell b0 k (.bool false)
        have b1' : BoxN (wr.setCell ⟨w.heap.size, k, none⟩ (.bool false)) (w.heap.size + 1) 105 (Lb fun _ => false) := boxN_other b1 _ (by simp) _
        have HS := Lib.hid hs
        rw [hb] at c0
        clear hd hs hb HY HN
        go_wp2_with (first | ((with_reducible apply load_lad'); exact rfl; (with_reducible assumption)) | ((with_reducible apply store_lad'); exact rfl; exact rfl; (with_reducible assumption)))
        exact bodyPost_ret (v := .tuple #[.agg (Lb (rb (da) (db))), .bool true]) (res_lad rfl _ _ (w.heap.size + 1) _ _ rfl (boxN_row b1') _ rfl) rfl ⟨by rw [HS.out], below_row (hB0.setCell (p := ⟨w.heap.size, k, none⟩) (by simp) _) (by omega) _⟩
      · have hb' : rb a b k = false := by simpa using hb
        have HB' := Lib.hid hb'
        rw [hb'] at c0
        clear hb hb'
        go_wp2
        go_roundw
        case rel => exact ⟨k + 1, by omega, by go_num, fun j hj => (Nat.lt_succ_iff_lt_or_eq.1 hj).elim (HL.out j) (fun e => e ▸ HB'.out), b0, b1, hB0⟩
        case measure => simp [intOf]; omega
    · have hk64 : k = 64 := by omega
      obtain ⟨h1, h2, h3⟩ := HN.out (by subst hk64; exact HL.out)
      have HS := Lib.hid h1
      have HA := Lib.hid h2
      have HBB := Lib.hid h3
      clear hk64 h1 h2 h3 HY HN
      go_wp2_with (first | ((with_reducible apply load_lad'); exact rfl; (with_reducible assumption)) | ((with_reducible apply store_lad'); exact rfl; exact rfl; (with_reducible assumption)))
      exact bodyPost_ret (v := .tuple #[.agg (Lb (rb a b)), .bool false]) (res_lad rfl _ _ (w.heap.size + 1) _ _ rfl (boxN_row b1) _ rfl) rfl ⟨by rw [HS.out, HA.out, HBB.out], below_row hB0 (by omega) _⟩
theorem below_drew8 {B : Nat} {W W' : World} (h : Below B W W') : Below B W W'.drew := ⟨h.os, h.tape, h.output, h.size, h.block⟩
set_option maxRecDepth 100000 in
set_option maxHeartbeats 2000000 in
theorem rRunning_c (a b : Int) (w : World) : Calls Try.prog 95 #[.agg (Lb (rb a b))] w fun e w' => e = .returned (.tuple #[.int .i64 (top a b).1, .int .i64 (top a b).2]) ∧ Below w.heap.size w w' := by
  have hB0 : Below w.heap.size w (w.alloc (.cells (Lb (rb a b)) 105)) := ((Below.refl _ w).alloc (Nat.le_refl _) _)
  have b0 : BoxN (w.alloc (.cells (Lb (rb a b)) 105)) w.heap.size 105 (Lb (rb a b)) := BoxN.new w 105 _
  have hz : w.heap.size ≤ (w.alloc (.cells (Lb (rb a b)) 105)).heap.size := hB0.size
  cases hal : allL a b with
  | nil =>
    have ht : top a b = (255, 0) := by unfold top; rw [hal]; rfl
    rw [ht]
    clear ht
    have HAL := Lib.hid (show ∀ W : World, Calls Try.prog 103 #[.agg (Lb (rb a b))] W fun e w' => (e = .returned (.slice none 0 0) ∨ ∃ g cap, e = .returned (.slice (some ⟨g, 0, none⟩) 0 cap)) ∧ Below W.heap.size W w' from fun W => (rAll_c a b W).mono (by
      rintro e w1 ⟨v, rfl, hrow, hb⟩
      rw [hal] at hrow
      refine ⟨?_, hb⟩
      rcases hrow.2 with ⟨rfl, _⟩ | ⟨g, cap, cur, rfl, _, _, _⟩
      · exact .inl rfl
      · exact .inr ⟨g, cap, rfl⟩))
    clear hal
    go_enter Try.func95, Try.ntmps95
    go_wp2_with (first | ((with_reducible apply load_lad'); exact rfl; (with_reducible assumption)) | (go_at_call 103; refine (HAL.out _).mono ?_; rintro e w1 ⟨(rfl | ⟨g, cap, rfl⟩), hb⟩))
    all_goals
      go_ret2
      exact ⟨rfl, hB0.trans (hb.mono hz)⟩
  | cons x post =>
    have ht : top a b = x := by unfold top; rw [hal]; rfl
    rw [ht]
    clear ht
    have HAL := Lib.hid (show ∀ W : World, Calls Try.prog 103 #[.agg (Lb (rb a b))] W fun e w' => ∃ (g n cap : Nat), e = .returned (.slice (some ⟨g, 0, none⟩) n cap) ∧ 2 ≤ n ∧ w'.cell? ⟨g, 0, none⟩ = some (.int .i64 x.1) ∧ w'.cell? ⟨g, 1, none⟩ = some (.int .i64 x.2) ∧ Below W.heap.size W w' from fun W => (rAll_c a b W).mono (by
      rintro e w1 ⟨v, rfl, hrow, hb⟩
      rw [hal] at hrow
      have hn : 2 ≤ (flat' (x :: post)).length := by rw [flat'_length, List.length_cons]; omega
      rcases hrow.2 with ⟨rfl, h0⟩ | ⟨g, cap, cur, rfl, _, _, _⟩
      · omega
      · exact ⟨g, _, cap, rfl, hn, by rw [hrow.cellAt 0 (by omega)]; simp [flat'], by rw [hrow.cellAt 1 (by omega)]; simp [flat'], hb⟩))
    clear hal
    go_enter Try.func95, Try.ntmps95
    go_wp2_with (first | ((with_reducible apply load_lad'); exact rfl; (with_reducible assumption)) | (go_at_call 103; refine (HAL.out _).mono ?_; rintro e w1 ⟨g, n, cap, rfl, hn, k0, k1, hb⟩))
    go_region
    all_goals
      go_wp2
      go_ret2
      exact ⟨rfl, below_drew8 (hB0.trans (hb.mono hz))⟩
set_option maxRecDepth 100000 in
set_option maxHeartbeats 2000000 in
theorem rBits_c (a b : Int) (ha : 0 ≤ a) (ha' : a ≤ 4294967295) (hb : 0 ≤ b) (hb' : b ≤ 4294967295) (g : Int) (hg : g = 0 ∨ g = 1) (w : World) : Calls Try.prog 79 #[.agg (Lb (rb a b)), .int .i64 g] w fun e w' => e = .returned (.int .u32 (if g = 0 then a else b)) ∧ Below w.heap.size w w' := by
  have hc : ∃ c : Int, (if g = 0 then a else b) = c ∧ 0 ≤ c ∧ c ≤ 4294967295 ∧ ∀ k : Nat, rb a b (2 * k + g.toNat) = tb c k := by
    rcases hg with rfl | rfl
    · exact ⟨a, rfl, ha, ha', fun k => by simp [rb]⟩
    · exact ⟨b, rfl, hb, hb', fun k => by simp [rb, show (2 * k + 1) % 2 = 1 by omega, show (2 * k + 1) / 2 = k by omega]⟩
  obtain ⟨c, hce, hc0, hc1, hbit⟩ := hc
  rw [hce]
  have HBIT := Lib.hid hbit
  have hB0 : Below w.heap.size w (w.alloc (.cells (Lb (rb a b)) 105)) := ((Below.refl _ w).alloc (Nat.le_refl _) _)
  have b0 : BoxN (w.alloc (.cells (Lb (rb a b)) 105)) w.heap.size 105 (Lb (rb a b)) := BoxN.new w 105 _
  have hg0 : 0 ≤ g := by omega
  have hg1 : g ≤ 1 := by omega
  clear hce hbit hg ha ha' hb hb'
  go_enter Try.func79, Try.ntmps79
  go_wp2_with fail
  generalize w.alloc (.cells (Lb (rb a b)) 105) = W0 at *
  go_loop [5, 6] (fun n i => ∃ k : Nat, k ≤ 32 ∧ i = .int .i64 ((k : Int) - 1) ∧ n = .int .u32 (c / 2 ^ k)) (fun _ i => (intOf i + 1).toNat)
  case atStart => exact ⟨32, by omega, rfl, by congr 1; omega⟩
  case round =>
    obtain ⟨k, hk, rfl, rfl⟩ := hrel
    by_cases hlt : 1 ≤ k
    · obtain ⟨m, rfl⟩ : ∃ m, k = m + 1 := ⟨k - 1, by omega⟩
      have hr := half_range c (m + 1) hc0 hc1
      have hst := half_step c m
      have hhb := half_bit c m
      have hr2 := half_range c m hc0 hc1
      have c0 := b0.cell (i := 2 * m + g.toNat) (Lb_get _ _ (by omega))
      rw [HBIT.out m] at c0
      have hm1 : (((m + 1 : Nat) : Int) - 1) = (m : Int) := by omega
      rw [hm1]
      have hidx : (2 * (m : Int) + g).toNat = 2 * m + g.toNat := by omega
      rw [← hidx] at c0
      clear hidx hm1
      generalize c / 2 ^ (m + 1) = x at *
      generalize hy : c / 2 ^ m = y at *
      obtain ⟨hr0, hr1⟩ := hr
      obtain ⟨hr2, hr3⟩ := hr2
      rw [← hhb] at c0
      by_cases hbit : y % 2 = 1
      · rw [show (y % 2 == 1) = true by simp [hbit]] at c0
        have HY := Lib.hid (show y = 2 * x + 1 by omega)
        have hx : 2 * x + 1 ≤ 4294967295 := by omega
        have HYY := Lib.hid hy
        clear hst hhb hbit hy
        go_wp2
        go_round
        case rel => exact ⟨m, by omega, rfl, by rw [HYY.out, HY.out]; congr 1; omega⟩
        case measure => simp [intOf]
      · rw [show (y % 2 == 1) = false by simp [hbit]] at c0
        have HY := Lib.hid (show y = 2 * x by omega)
        have hx : 2 * x ≤ 4294967295 := by omega
        have HYY := Lib.hid hy
        clear hst hhb hbit hy
        go_wp2
        go_round
        case rel => exact ⟨m, by omega, rfl, by rw [HYY.out, HY.out]; congr 1; omega⟩
        case measure => simp [intOf]
    · have hk0 : k = 0 := by omega
      have HC := Lib.hid (show c / 2 ^ k = c by rw [hk0]; simp)
      have hm1 : ((k : Int) - 1) = -1 := by omega
      rw [HC.out, hm1]
      clear hk hlt hm1 hk0
      go_wp2
      go_ret
      exact ⟨rfl, hB0⟩
end Go.Proofs.Ytkbaghblchlcnaa
namespace Go.Proofs.Ytkbaghblchlcnaa
open Go.RowKit Go.Shelf
attribute [local go_sem] Oper.semAt_some cell_row frozen_row isRow_setCell_eq rowAt_setCell_same rowAt_setCell_other isRow_alloc_eq rowAt_alloc rowAt_new isRow_setRow_eq rowAt_setRow_same rowAt_setRow_other isRow_drew rowAt_drew size_setRow_ Lb_size Lb_at blk_ptr aggOf_agg below_alloc_r below_setCell_r below_setRow_r below_drew_r le_add_r
def wOk (r : Int) : Bool := r == 6 || r == 7 || r == 8 || r == 9 || r == 10 || r == 11
def wM (r v m : Int) : Int := if r = 6 then realP (v % 256) else m
def wP0 (r v p : Int) : Int := if r = 7 then v % 8 else p
def wP1 (r v p : Int) : Int := if r = 8 then (if v % 8 = 0 then 1 else v % 8) else p
def wSp (r v : Int) (s : Bool) : Bool := if r = 9 then v / 2 % 2 == 1 else s
def wO0 (r v : Int) (s : Bool) : Bool := if r = 10 then v % 2 == 1 else s
def wO1 (r v : Int) (s : Bool) : Bool := if r = 11 then v % 2 == 1 else s
theorem and2_u (v : Int) : (bits .and .u64 v 2 == 2) = (v / 2 % 2 == 1) := by
  have h : bits .and .u64 v 2 = 2 * (v / 2 % 2) := by
    refine ext_u64 (bits_u64_in _ _ _) (by omega) fun k hk => ?_
    rw [tb_and_u _ _ _ hk]
    have h2 : tb 2 k = decide (k = 1) := rtb_pow 1 k
    rw [h2]
    by_cases e : k = 1
    · subst e
      unfold tb
      have : v / 2 % 2 = 0 ∨ v / 2 % 2 = 1 := by omega
      rcases this with h | h <;> simp [h]
    · have : v / 2 % 2 = 0 ∨ v / 2 % 2 = 1 := by omega
      rcases this with h | h
      · rw [h]; simp [e, tb]
      · rw [h]; rw [show (2 * 1 : Int) = 2 from rfl, h2]; simp [e]
  rw [h]
  have : v / 2 % 2 = 0 ∨ v / 2 % 2 = 1 := by omega
  rcases this with h | h <;> simp [h]
theorem and1_u (v : Int) : bits .and .u64 v 1 = v % 2 := by rw [show (1 : Int) = 2 ^ 1 - 1 from rfl, and_low_u _ 1 (by decide)]; rfl
theorem and7_u (v : Int) : bits .and .u64 v 7 = v % 8 := by rw [show (7 : Int) = 2 ^ 3 - 1 from rfl, and_low_u _ 3 (by decide)]; rfl
theorem and255_u (v : Int) : bits .and .u64 v 255 = v % 256 := by rw [show (255 : Int) = 2 ^ 8 - 1 from rfl, and_low_u _ 8 (by decide)]; rfl
theorem wok_no {r : Int} (h6 : ¬ r = 6) (h7 : ¬ r = 7) (h8 : ¬ r = 8) (h9 : ¬ r = 9) (h10 : ¬ r = 10) (h11 : ¬ r = 11) : wOk r = false := by unfold wOk; simp [h6, h7, h8, h9, h10, h11]
set_option maxRecDepth 100000 in
set_option maxHeartbeats 4000000 in
theorem Write_c (g : Nat) (m p0 p1 : Int) (o0 o1 sp : Bool) (a b : Int) (e0 e1 : Value) (r v : Int) (w : World) (hr : isRow w g) (hr' : rowAt w g = #[.int .i64 m, .int .i64 p0, .int .i64 p1, .bool o0, .bool o1, .bool sp, .int .u32 a, .int .u32 b, e0, e1]) :
    Calls Try.prog 54 #[.pointer (some ⟨g, 0, none⟩), .int .i64 r, .int .u64 v] w fun e w' => e = .returned (.bool (wOk r)) ∧ Row w' g #[.int .i64 (wM r v m), .int .i64 (wP0 r v p0), .int .i64 (wP1 r v p1), .bool (wO0 r v o0), .bool (wO1 r v o1), .bool (wSp r v sp), .int .u32 a, .int .u32 b, e0, e1] ∧ Aside g w w' := by
  have A0 : Aside g w w := Aside.of_below (Below.refl _ w)
  by_cases h6 : r = 6
  · subst h6
    have h := and255_u v
    have hb0 : 0 ≤ v % 256 := by omega
    have hb1 : v % 256 ≤ 255 := by omega
    have HRL := Lib.hid (fun W : World => Real_c (v % 256) W)
    simp only [wM, wP0, wP1, wSp, wO0, wO1, if_true, show ¬ ((6 : Int) = 7) by decide, show ¬ ((6 : Int) = 8) by decide, show ¬ ((6 : Int) = 9) by decide, show ¬ ((6 : Int) = 10) by decide, show ¬ ((6 : Int) = 11) by decide, if_false]
    generalize realP (v % 256) = rl at *
    generalize v % 256 = vv at *
    go_enter Try.func54, Try.ntmps54
    go_wp2_with (go_at_call 76; refine (HRL.out _).mono ?_; rintro e w1 ⟨rfl, rfl⟩)
    go_ret
    first | exact ⟨rfl, ⟨by go_simp, by go_simp⟩, A0.setCell _⟩ | exact ⟨rfl, ⟨hr, hr'⟩, A0⟩
  by_cases h7 : r = 7
  · subst h7
    have h := and7_u v
    have hb0 : 0 ≤ v % 8 := by omega
    have hb1 : v % 8 ≤ 7 := by omega
    simp only [wM, wP0, wP1, wSp, wO0, wO1, if_true, show ¬ ((7 : Int) = 6) by decide, show ¬ ((7 : Int) = 8) by decide, show ¬ ((7 : Int) = 9) by decide, show ¬ ((7 : Int) = 10) by decide, show ¬ ((7 : Int) = 11) by decide, if_false]
    generalize v % 8 = vv at *
    go_enter Try.func54, Try.ntmps54
    go_wp2_with (go_at_call 76; refine (HRL.out _).mono ?_; rintro e w1 ⟨rfl, rfl⟩)
    go_ret
    first | exact ⟨rfl, ⟨by go_simp, by go_simp⟩, A0.setCell _⟩ | exact ⟨rfl, ⟨hr, hr'⟩, A0⟩
  by_cases h8 : r = 8
  · subst h8
    have h := and7_u v
    have hb0 : 0 ≤ v % 8 := by omega
    have hb1 : v % 8 ≤ 7 := by omega
    simp only [wM, wP0, wP1, wSp, wO0, wO1, if_true, show ¬ ((8 : Int) = 6) by decide, show ¬ ((8 : Int) = 7) by decide, show ¬ ((8 : Int) = 9) by decide, show ¬ ((8 : Int) = 10) by decide, show ¬ ((8 : Int) = 11) by decide, if_false]
    generalize v % 8 = vv at *
    by_cases hv0 : vv = 0
    · subst hv0
      rw [if_pos rfl]
      go_enter Try.func54, Try.ntmps54
      go_wp2_with (go_at_call 76; refine (HRL.out _).mono ?_; rintro e w1 ⟨rfl, rfl⟩)
      go_ret
      first | exact ⟨rfl, ⟨by go_simp, by go_simp⟩, A0.setCell _⟩ | exact ⟨rfl, ⟨hr, hr'⟩, A0⟩
    · rw [if_neg hv0]
      by_cases hv1 : vv = 1
      · subst hv1
        clear hv0
        go_enter Try.func54, Try.ntmps54
        go_wp2_with (go_at_call 76; refine (HRL.out _).mono ?_; rintro e w1 ⟨rfl, rfl⟩)
        go_ret
        first | exact ⟨rfl, ⟨by go_simp, by go_simp⟩, A0.setCell _⟩ | exact ⟨rfl, ⟨hr, hr'⟩, A0⟩
      · have hv2 : 1 < vv := by omega
        clear hv0 hv1
        go_enter Try.func54, Try.ntmps54
        go_wp2_with (go_at_call 76; refine (HRL.out _).mono ?_; rintro e w1 ⟨rfl, rfl⟩)
        go_ret
        first | exact ⟨rfl, ⟨by go_simp, by go_simp⟩, A0.setCell _⟩ | exact ⟨rfl, ⟨hr, hr'⟩, A0⟩
  by_cases h9 : r = 9
  · subst h9
    have h := and2_u v
    simp only [wM, wP0, wP1, wSp, wO0, wO1, if_true, show ¬ ((9 : Int) = 6) by decide, show ¬ ((9 : Int) = 7) by decide, show ¬ ((9 : Int) = 8) by decide, show ¬ ((9 : Int) = 10) by decide, show ¬ ((9 : Int) = 11) by decide, if_false]
    generalize (v / 2 % 2 == 1) = vv at *
    go_enter Try.func54, Try.ntmps54
    go_wp2_with (go_at_call 76; refine (HRL.out _).mono ?_; rintro e w1 ⟨rfl, rfl⟩)
    go_ret
    first | exact ⟨rfl, ⟨by go_simp, by go_simp⟩, A0.setCell _⟩ | exact ⟨rfl, ⟨hr, hr'⟩, A0⟩
  by_cases h10 : r = 10
  · subst h10
    have h := and1_u v
    simp only [wM, wP0, wP1, wSp, wO0, wO1, if_true, show ¬ ((10 : Int) = 6) by decide, show ¬ ((10 : Int) = 7) by decide, show ¬ ((10 : Int) = 8) by decide, show ¬ ((10 : Int) = 9) by decide, show ¬ ((10 : Int) = 11) by decide, if_false]
    generalize v % 2 = vv at *
    go_enter Try.func54, Try.ntmps54
    go_wp2_with (go_at_call 76; refine (HRL.out _).mono ?_; rintro e w1 ⟨rfl, rfl⟩)
    go_ret
    first | exact ⟨rfl, ⟨by go_simp, by go_simp⟩, A0.setCell _⟩ | exact ⟨rfl, ⟨hr, hr'⟩, A0⟩
  by_cases h11 : r = 11
  · subst h11
    have h := and1_u v
    simp only [wM, wP0, wP1, wSp, wO0, wO1, if_true, show ¬ ((11 : Int) = 6) by decide, show ¬ ((11 : Int) = 7) by decide, show ¬ ((11 : Int) = 8) by decide, show ¬ ((11 : Int) = 9) by decide, show ¬ ((11 : Int) = 10) by decide, if_false]
    generalize v % 2 = vv at *
    go_enter Try.func54, Try.ntmps54
    go_wp2_with (go_at_call 76; refine (HRL.out _).mono ?_; rintro e w1 ⟨rfl, rfl⟩)
    go_ret
    first | exact ⟨rfl, ⟨by go_simp, by go_simp⟩, A0.setCell _⟩ | exact ⟨rfl, ⟨hr, hr'⟩, A0⟩
  have e6 : (r == 6) = false := by simpa using h6
  have e7 : (r == 7) = false := by simpa using h7
  have e8 : (r == 8) = false := by simpa using h8
  have e9 : (r == 9) = false := by simpa using h9
  have e10 : (r == 10) = false := by simpa using h10
  have e11 : (r == 11) = false := by simpa using h11
  simp only [wM, wP0, wP1, wSp, wO0, wO1, if_neg h6, if_neg h7, if_neg h8, if_neg h9, if_neg h10, if_neg h11, wok_no h6 h7 h8 h9 h10 h11]
  clear h6 h7 h8 h9 h10 h11
  go_enter Try.func54, Try.ntmps54
  go_wp2_with (go_at_call 76; refine (HRL.out _).mono ?_; rintro e w1 ⟨rfl, rfl⟩)
  go_ret
  first | exact ⟨rfl, ⟨by go_simp, by go_simp⟩, A0.setCell _⟩ | exact ⟨rfl, ⟨hr, hr'⟩, A0⟩
end Go.Proofs.Ytkbaghblchlcnaa
namespace Go.Proofs.Ytkbaghblchlcnaa
open Go.RowKit Go.Shelf
theorem one_lad (f : Nat → Bool) : AllOne (Lb f) := Lb_one f
theorem zero_rc : #[.int .i64 0, .int .i64 0, .int .i64 0, .bool false, .bool false, .bool false, .bool false, .bool false, .bool false, .bool false, .bool false, .bool false, .bool false, .bool false, .bool false, .bool false, .bool false, .bool false, .bool false, .bool false, .bool false, .bool false, .bool false, .bool false, .bool false, .bool false, .bool false, .bool false, .bool false, .bool false, .bool false, .bool false, .bool false, .bool false, .bool false, .bool false, .bool false, .bool false, .bool false, .bool false, .bool false, .bool false, .bool false, .bool false, .bool false, .bool false, .bool false, .bool false, .bool false, .bool false, .bool false, .bool false, .bool false, .bool false, .bool false, .bool false, .bool false, .bool false, .bool false, .bool false, .bool false, .bool false, .bool false, .bool false, .bool false, .bool false, .bool false, .bool false, .bool false, .bool false] = RC 0 0 0 false false false (fun _ => false) := by kernel_rfl
theorem zero_rc2 : Try.zeroCells107 = RC 0 0 0 false false false (fun _ => false) := by kernel_rfl
theorem infoF : (Try.prog.info? 107).map (·.size) = some 70 := by kernel_rfl
theorem infoFz : (Try.prog.info? 107).bind (·.zero) = some (.agg #[.int .i64 0, .int .i64 0, .int .i64 0, .bool false, .bool false, .bool false, .bool false, .bool false, .bool false, .bool false, .bool false, .bool false, .bool false, .bool false, .bool false, .bool false, .bool false, .bool false, .bool false, .bool false, .bool false, .bool false, .bool false, .bool false, .bool false, .bool false, .bool false, .bool false, .bool false, .bool false, .bool false, .bool false, .bool false, .bool false, .bool false, .bool false, .bool false, .bool false, .bool false, .bool false, .bool false, .bool false, .bool false, .bool false, .bool false, .bool false, .bool false, .bool false, .bool false, .bool false, .bool false, .bool false, .bool false, .bool false, .bool false, .bool false, .bool false, .bool false, .bool false, .bool false, .bool false, .bool false, .bool false, .bool false, .bool false, .bool false, .bool false, .bool false, .bool false, .bool false]) := by kernel_rfl
theorem zeroF {w : World} : (zeroValue 107).run Try.prog w = .ok (.agg (RC 0 0 0 false false false fun _ => false)) w := by
  have h := infoFz
  rw [zero_rc] at h
  cases hq : Try.prog.info? 107 with
  | none => rw [hq] at h; cases h
  | some i =>
    rw [hq] at h
    have h' : i.zero = some (.agg (RC 0 0 0 false false false fun _ => false)) := h
    simp [zeroValue, typeInfo, hq, h']
variable {w : World} {ρ : Operand → Value} {x y : Operand} {dst : Option Tmp} {t0 : TypeId} {pos : String} {af : Array Edge} {gd : Option (Nat × Bool)}
theorem loadF (hx : ρ x = .pointer (some ⟨blk (ρ x), 0, none⟩)) (h : isRow w (blk (ρ x))) (hs : (rowAt w (blk (ρ x))).size = 70) : (execOp ρ { dst := dst, op := .load 107 x, type := t0, pos := pos, after := af, guard := gd }).run Try.prog w = .ok (.value (.agg (rowAt w (blk (ρ x))))) w := run_load_op Try.underlying107 rfl infoF hx h hs
theorem storeF (hx : ρ x = .pointer (some ⟨blk (ρ x), 0, none⟩)) (hy : ρ y = .agg (aggOf (ρ y))) (h : isRow w (blk (ρ x))) (hs : (rowAt w (blk (ρ x))).size = 70) (hc : (aggOf (ρ y)).size = 70) (h1 : AllOne (aggOf (ρ y))) : (execOp ρ { dst := dst, op := .store 107 x y, type := t0, pos := pos, after := af, guard := gd }).run Try.prog w = .ok .skip (w.setRow (blk (ρ x)) (aggOf (ρ y))) := run_store_op infoF hx hy h hs hc h1
theorem loadA (hx : ρ x = .pointer (some ⟨blk (ρ x), 0, none⟩)) (h : isRow w (blk (ρ x))) (hs : (rowAt w (blk (ρ x))).size = 64) : (execOp ρ { dst := dst, op := .load 105 x, type := t0, pos := pos, after := af, guard := gd }).run Try.prog w = .ok (.value (.agg (rowAt w (blk (ρ x))))) w := run_load_op Try.underlying105 rfl infoL hx h hs
theorem storeA (hx : ρ x = .pointer (some ⟨blk (ρ x), 0, none⟩)) (hy : ρ y = .agg (aggOf (ρ y))) (h : isRow w (blk (ρ x))) (hs : (rowAt w (blk (ρ x))).size = 64) (hc : (aggOf (ρ y)).size = 64) (h1 : AllOne (aggOf (ρ y))) : (execOp ρ { dst := dst, op := .store 105 x y, type := t0, pos := pos, after := af, guard := gd }).run Try.prog w = .ok .skip (w.setRow (blk (ρ x)) (aggOf (ρ y))) := run_store_op infoL hx hy h hs hc h1
theorem loadM (hx : ρ x = .pointer (some ⟨blk (ρ x), 6, none⟩)) (h : isRow w (blk (ρ x))) (hs : (rowAt w (blk (ρ x))).size = 70) : (execOp ρ { dst := dst, op := .load 105 x, type := t0, pos := pos, after := af, guard := gd }).run Try.prog w = .ok (.value (.agg ((rowAt w (blk (ρ x))).extract 6 70))) w := by
  have ho : offv (ρ x) = 6 := by rw [hx]; rfl
  have := run_load_mid_op (P := Try.prog) (w := w) (ρ := ρ) (x := x) (dst := dst) (t0 := t0) (pos := pos) (af := af) (gd := gd) Try.underlying105 rfl infoL (by rw [ho]; exact hx) h (by rw [ho, hs]; decide)
  rwa [ho] at this
theorem storeM (hx : ρ x = .pointer (some ⟨blk (ρ x), 6, none⟩)) (hy : ρ y = .agg (aggOf (ρ y))) (h : isRow w (blk (ρ x))) (hs : (rowAt w (blk (ρ x))).size = 70) (hc : (aggOf (ρ y)).size = 64) (h1 : AllOne (aggOf (ρ y))) : (execOp ρ { dst := dst, op := .store 105 x y, type := t0, pos := pos, after := af, guard := gd }).run Try.prog w = .ok .skip (w.setRow (blk (ρ x)) (spl (rowAt w (blk (ρ x))) 6 (aggOf (ρ y)))) := by
  have ho : offv (ρ x) = 6 := by rw [hx]; rfl
  have := run_store_mid_op (P := Try.prog) (w := w) (ρ := ρ) (x := x) (y := y) (dst := dst) (t0 := t0) (pos := pos) (af := af) (gd := gd) infoL (by rw [ho]; exact hx) hy h (by rw [ho, hs]; decide) hc h1
  rwa [ho] at this
theorem resF {fn : Func} {p u : Tmp} {cs : Array Value} {g : Nat} (h : fn.results = #[.cell p 107, .tmp u]) (tmps : Array Value) (hp : tmps.getD p undef = .pointer (some ⟨g, 0, none⟩)) (hg : Row w g cs) (hs : cs.size = 70) {v : Value} (hv : tmps.getD u undef = v) : (results fn tmps).run Try.prog w = .ok (.tuple #[.agg cs, v]) w := by
  obtain ⟨t, ht⟩ := hg.box
  rw [results_cell_tmp h tmps Try.prog w, hp]
  simp only [asAddr, Sem.run_pure, Result.andThen_ok, run_loadVar_row w g t 107 cs (0, 0) _ ht Try.underlying107 rfl (by rw [hs]; exact infoF), hv]
theorem resF3 {fn : Func} {p u u2 : Tmp} {cs : Array Value} {g : Nat} (h : fn.results = #[.cell p 107, .tmp u, .tmp u2]) (tmps : Array Value) (hp : tmps.getD p undef = .pointer (some ⟨g, 0, none⟩)) (hg : Row w g cs) (hs : cs.size = 70) {v v2 : Value} (hv : tmps.getD u undef = v) (hv2 : tmps.getD u2 undef = v2) : (results fn tmps).run Try.prog w = .ok (.tuple #[.agg cs, v, v2]) w := by
  obtain ⟨t, ht⟩ := hg.box
  have hl := run_loadVar_row w g t 107 cs (0, 0) _ ht Try.underlying107 rfl (by rw [hs]; exact infoF)
  have hp' : tmps[p]?.getD undef = .pointer (some ⟨g, 0, none⟩) := by simpa using hp
  have hv' : tmps[u]?.getD undef = v := by simpa using hv
  have hv2' : tmps[u2]?.getD undef = v2 := by simpa using hv2
  simp only [results, h]
  simp [Result.andThen, asAddr, hp', hl, hv', hv2']
end Go.Proofs.Ytkbaghblchlcnaa
namespace Go.Proofs.Ytkbaghblchlcnaa
open Go.RowKit Go.Shelf
attribute [local go_sem] Oper.semAt_some cell_row frozen_row isRow_setCell_eq rowAt_setCell_same rowAt_setCell_other isRow_alloc_eq rowAt_alloc rowAt_new isRow_setRow_eq rowAt_setRow_same rowAt_setRow_other isRow_drew rowAt_drew size_setRow_ Lb_size Lb_at blk_ptr aggOf_agg below_alloc_r below_setCell_r below_setRow_r below_drew_r le_add_r RC_size RC_get0 RC_at0 RC_set0 RC_get1 RC_at1 RC_set1 RC_get2 RC_at2 RC_set2 RC_get3 RC_at3 RC_set3 RC_get4 RC_at4 RC_set4 RC_get5 RC_at5 RC_set5 zeroF RC_ext RC_spl RC_one offv_ptr one_lad zero_lad allOne_nil allOne_cons Value.oneCell' zero_rc zero_rc2
attribute [local go_sem ↓] loadF storeF loadA storeA loadM storeM
set_option maxRecDepth 100000 in
set_option maxHeartbeats 1000000 in
theorem rbits_c (m p0 p1 : Int) (o0 o1 sp : Bool) (a b : Int) (g : Int) (w : World) : Calls Try.prog 102 #[.agg (RC m p0 p1 o0 o1 sp (rb a b)), .int .i64 g] w fun e w' => e = .returned (.int .i64 (maskP (g % 2) (ptP p0 p1 g))) ∧ Below w.heap.size w w' := by
  have h1 := and1 g
  have hB0 : Below w.heap.size w (w.alloc (.cells (RC m p0 p1 o0 o1 sp (rb a b)) 107)) := (Below.refl _ w).alloc (Nat.le_refl _) _
  generalize rb a b = f at *
  rcases mod2 g with h | h
  · rw [h] at h1 ⊢
    rw [show ptP p0 p1 g = p0 by unfold ptP; rw [h]; rfl]
    clear h
    have HM := Lib.hid (fun W : World => rMask_c 0 p0 W)
    generalize maskP 0 p0 = mk at *
    go_enter Try.func102, Try.ntmps102
    go_wp2_with (go_at_call 107; refine (HM.out _).mono ?_; rintro e w' ⟨rfl, rfl⟩)
    go_ret
    exact ⟨rfl, hB0⟩
  · rw [h] at h1 ⊢
    rw [show ptP p0 p1 g = p1 by unfold ptP; rw [h]; rfl]
    clear h
    have HM := Lib.hid (fun W : World => rMask_c 1 p1 W)
    generalize maskP 1 p1 = mk at *
    go_enter Try.func102, Try.ntmps102
    go_wp2_with (go_at_call 107; refine (HM.out _).mono ?_; rintro e w' ⟨rfl, rfl⟩)
    go_ret
    exact ⟨rfl, hB0⟩
set_option maxRecDepth 100000 in
set_option maxHeartbeats 4000000 in
theorem rMay_c (m p0 p1 : Int) (o0 o1 sp : Bool) (a b : Int) (id pr gr : Int) (is : Bool) (w : World) : Calls Try.prog 100 #[.agg (RC m p0 p1 o0 o1 sp (rb a b)), .agg #[.int .i64 id, .int .i64 pr, .int .i64 gr, .bool is]] w fun e w' => e = .returned (.bool (mayP m p0 p1 o0 o1 a b pr gr is)) ∧ Below w.heap.size w w' := by
  have h1 := and1 gr
  unfold mayP
  have hRUN := fun W : World => rRunning_c a b W
  have hMK := fun W : World => rbits_c m p0 p1 o0 o1 sp a b gr W
  have HT2 := Lib.hid (show decide (bits .and .i64 pr (maskP (gr % 2) (ptP p0 p1 gr)) < (top a b).1) = decide (bits .and .i64 pr (maskP (gr % 2) (ptP p0 p1 gr)) < (top a b).1) from rfl)
  generalize maskP (gr % 2) (ptP p0 p1 gr) = mk at *
  generalize (top a b).1 = r1 at *
  generalize (top a b).2 = r2 at *
  generalize rb a b = f at *
  have HRUN := Lib.hid hRUN
  have HMK := Lib.hid hMK
  clear hRUN hMK HT2
  have hB0 : Below w.heap.size w ((w.alloc (.cells (RC m p0 p1 o0 o1 sp f) 107)).alloc (.cells #[.int .i64 id, .int .i64 pr, .int .i64 gr, .bool is] 47)) := ((Below.refl _ w).alloc (Nat.le_refl _) _).alloc (by simp) _
  obtain ⟨R0, R0'⟩ : Row ((w.alloc (.cells (RC m p0 p1 o0 o1 sp f) 107)).alloc (.cells #[.int .i64 id, .int .i64 pr, .int .i64 gr, .bool is] 47)) w.heap.size (RC m p0 p1 o0 o1 sp f) := ⟨isRow_alloc isRow_new, (rowAt_alloc isRow_new).trans rowAt_new⟩
  obtain ⟨R1, R1'⟩ : Row ((w.alloc (.cells (RC m p0 p1 o0 o1 sp f) 107)).alloc (.cells #[.int .i64 id, .int .i64 pr, .int .i64 gr, .bool is] 47)) (w.heap.size + 1) #[.int .i64 id, .int .i64 pr, .int .i64 gr, .bool is] := by
    have := Row.new (w.alloc (.cells (RC m p0 p1 o0 o1 sp f) 107)) 47 #[.int .i64 id, .int .i64 pr, .int .i64 gr, .bool is]; rwa [World.size_alloc] at this
  have hz := hB0.size
  rcases mod2 gr with h | h
  all_goals
    rw [h] at h1
    simp only [onP, h, if_true, show ¬ ((1 : Int) = 0) by decide, if_false]
    clear h
  · cases is
    · go_enter Try.func100, Try.ntmps100
      go_wp2
      go_ret
      exact ⟨rfl, hB0⟩
    · cases o0
      · go_enter Try.func100, Try.ntmps100
        go_wp2
        go_ret
        exact ⟨rfl, hB0⟩
      · by_cases ht : pr < m
        · rw [show decide (pr < m) = true from decide_eq_true ht]
          go_enter Try.func100, Try.ntmps100
          go_wp2_with (go_at_call 95; refine (HRUN.out _).mono ?_; rintro e w1 ⟨rfl, hb1⟩; obtain ⟨Q0, Q0'⟩ := Row.step R0 R0' hb1; obtain ⟨Q1, Q1'⟩ := Row.step R1 R1' hb1; have hB1 := bk hB0 hz hb1)
          (first | go_region_held3 (fun w' => isRow w' w.heap.size ∧ rowAt w' w.heap.size = (RC m p0 p1 true o1 sp f) ∧ isRow w' (w.heap.size + 1) ∧ rowAt w' (w.heap.size + 1) = #[.int .i64 id, .int .i64 pr, .int .i64 gr, .bool true] ∧ Below w.heap.size w w') (first | exact ⟨Q0, Q0', Q1, Q1', below_drew0 hB1⟩ | (go_split_ands; exact ⟨rk1 (by assumption) hb, rk2 (by assumption) (by assumption) hb, rk1 (by assumption) hb, rk2 (by assumption) (by assumption) hb, bk (by assumption) (Below.size (by assumption)) hb⟩)) ((go_at_call 102; (with_reducible refine (HMK.out _).mono ?_); rintro e w4 ⟨rfl, hb⟩)) | fail)
          all_goals
            go_split_ands
            go_wp2
            go_ret
            exact ⟨rfl, by assumption⟩
        · rw [show decide (pr < m) = false from decide_eq_false ht]
          go_enter Try.func100, Try.ntmps100
          go_wp2
          go_ret
          exact ⟨rfl, hB0⟩
  · cases is
    · go_enter Try.func100, Try.ntmps100
      go_wp2
      go_ret
      exact ⟨rfl, hB0⟩
    · cases o1
      · go_enter Try.func100, Try.ntmps100
        go_wp2
        go_ret
        exact ⟨rfl, hB0⟩
      · by_cases ht : pr < m
        · rw [show decide (pr < m) = true from decide_eq_true ht]
          go_enter Try.func100, Try.ntmps100
          go_wp2_with (go_at_call 95; refine (HRUN.out _).mono ?_; rintro e w1 ⟨rfl, hb1⟩; obtain ⟨Q0, Q0'⟩ := Row.step R0 R0' hb1; obtain ⟨Q1, Q1'⟩ := Row.step R1 R1' hb1; have hB1 := bk hB0 hz hb1)
          (first | go_region_held3 (fun w' => isRow w' w.heap.size ∧ rowAt w' w.heap.size = (RC m p0 p1 o0 true sp f) ∧ isRow w' (w.heap.size + 1) ∧ rowAt w' (w.heap.size + 1) = #[.int .i64 id, .int .i64 pr, .int .i64 gr, .bool true] ∧ Below w.heap.size w w') (first | exact ⟨Q0, Q0', Q1, Q1', below_drew0 hB1⟩ | (go_split_ands; exact ⟨rk1 (by assumption) hb, rk2 (by assumption) (by assumption) hb, rk1 (by assumption) hb, rk2 (by assumption) (by assumption) hb, bk (by assumption) (Below.size (by assumption)) hb⟩)) ((go_at_call 102; (with_reducible refine (HMK.out _).mono ?_); rintro e w4 ⟨rfl, hb⟩)) | fail)
          all_goals
            go_split_ands
            go_wp2
            go_ret
            exact ⟨rfl, by assumption⟩
        · rw [show decide (pr < m) = false from decide_eq_false ht]
          go_enter Try.func100, Try.ntmps100
          go_wp2
          go_ret
          exact ⟨rfl, hB0⟩
set_option maxRecDepth 100000 in
set_option maxHeartbeats 2000000 in
theorem rShows_c (m p0 p1 : Int) (o0 o1 sp : Bool) (a b : Int) (id pr gr : Int) (is : Bool) (g : Int) (w : World) : Calls Try.prog 85 #[.agg (RC m p0 p1 o0 o1 sp (rb a b)), .agg #[.int .i64 id, .int .i64 pr, .int .i64 gr, .bool is], .int .i64 g] w fun e w' => e = .returned (.int .i64 (showsP o0 o1 id gr is g)) ∧ Below w.heap.size w w' := by
  have h1 := and1 g
  generalize rb a b = f at *
  have hB0 : ∀ u v, Below w.heap.size w ((w.alloc (.cells u 107)).alloc (.cells v 47)) := fun u v => ((Below.refl _ w).alloc (Nat.le_refl _) _).alloc (by simp) _
  cases is
  · have HS := Lib.hid (show showsP o0 o1 id gr false g = 1023 by simp [showsP])
    go_enter Try.func85, Try.ntmps85
    go_wp2
    go_ret
    exact ⟨by rw [HS.out]; rfl, hB0 _ _⟩
  · by_cases hg : gr = g
    · subst hg
      rcases mod2 gr with h | h
      · rw [h] at h1
        cases o0
        · have HS := Lib.hid (show showsP false o1 id gr true gr = 1023 by simp [showsP, onP, h])
          clear h
          go_enter Try.func85, Try.ntmps85
          go_wp2
          go_ret
          exact ⟨by rw [HS.out]; rfl, hB0 _ _⟩
        · have HS := Lib.hid (show showsP true o1 id gr true gr = id by simp [showsP, onP, h])
          clear h
          go_enter Try.func85, Try.ntmps85
          go_wp2
          go_ret
          exact ⟨by rw [HS.out]; rfl, hB0 _ _⟩
      · rw [h] at h1
        cases o1
        · have HS := Lib.hid (show showsP o0 false id gr true gr = 1023 by simp [showsP, onP, h])
          clear h
          go_enter Try.func85, Try.ntmps85
          go_wp2
          go_ret
          exact ⟨by rw [HS.out]; rfl, hB0 _ _⟩
        · have HS := Lib.hid (show showsP o0 true id gr true gr = id by simp [showsP, onP, h])
          clear h
          go_enter Try.func85, Try.ntmps85
          go_wp2
          go_ret
          exact ⟨by rw [HS.out]; rfl, hB0 _ _⟩
    · have HS := Lib.hid (show showsP o0 o1 id gr true g = 1023 by simp [showsP, hg])
      have hg' : (gr != g) = true := by simp [bne, hg]
      clear hg
      go_enter Try.func85, Try.ntmps85
      go_wp2
      go_ret
      exact ⟨by rw [HS.out]; rfl, hB0 _ _⟩
theorem RReal_c (id : Int) (w : World) : Calls Try.prog 30 #[.int .i64 id] w fun e w' => e = .returned (.bool (realC id)) ∧ w = w' := by
  by_cases h1 : 0 ≤ id
  · by_cases h2 : id ≤ 1019
    · have HS := Lib.hid (show realC id = true from decide_eq_true (by omega))
      generalize realC id = tt at *
      go_enter Try.func30, Try.ntmps30
      go_wp2
      go_ret
      exact ⟨by rw [HS.out]; rfl, rfl⟩
    · by_cases h3 : 8192 ≤ id
      · by_cases h4 : id ≤ 16383
        · have HS := Lib.hid (show realC id = true from decide_eq_true (by omega))
          generalize realC id = tt at *
          go_enter Try.func30, Try.ntmps30
          go_wp2
          go_ret
          exact ⟨by rw [HS.out]; rfl, rfl⟩
        · have HS := Lib.hid (show realC id = false from decide_eq_false (by omega))
          generalize realC id = tt at *
          go_enter Try.func30, Try.ntmps30
          go_wp2
          go_ret
          exact ⟨by rw [HS.out]; rfl, rfl⟩
      · have HS := Lib.hid (show realC id = false from decide_eq_false (by omega))
        generalize realC id = tt at *
        go_enter Try.func30, Try.ntmps30
        go_wp2
        go_ret
        exact ⟨by rw [HS.out]; rfl, rfl⟩
  · have HS := Lib.hid (show realC id = false from decide_eq_false (by omega))
    have h3 : ¬ 8192 ≤ id := by omega
    generalize realC id = tt at *
    go_enter Try.func30, Try.ntmps30
    go_wp2
    go_ret
    exact ⟨by rw [HS.out]; rfl, rfl⟩
theorem one_c (x : Bool) (n : Int) (w : World) : Calls Try.prog 94 #[.bool x, .int .u64 n] w fun e w' => e = .returned (.int .u64 (if x then n else 0)) ∧ w = w' := by
  cases x
  · go_enter Try.func94, Try.ntmps94
    go_wp2
    go_ret
    exact ⟨rfl, rfl⟩
  · go_enter Try.func94, Try.ntmps94
    go_wp2
    go_ret
    exact ⟨rfl, rfl⟩
end Go.Proofs.Ytkbaghblchlcnaa
namespace Go.Proofs.Ytkbaghblchlcnaa
open Go.RowKit
section
variable {P : Program} {w : World} {d c : Nat} {e t : TypeId} {xs ys : Array Value} {js : List Nat} {j n : Nat} {a b : Value} {r s : Bool} {i : TypeInfo}
theorem eqArr_of (hu : P.underlying t = some (.array n e)) (hi : P.info? e = some i) (hc : P.cellsOf e = c) (hl : List.range n = js) (h : (Op.eqItems d e c xs ys js).run P w = .ok r w) : (Op.equalIn (d + 1) t (.agg xs) (.agg ys)).run P w = .ok r w := by
  rw [run_equalIn_array (P := P) w d xs ys hu hi, hc, hl]; exact h
theorem eqi_nil : (Op.eqItems d e c xs ys []).run P w = .ok true w := by simp [Op.eqItems]
theorem eqi_cons (ha : (part e xs (j * c)).run P w = .ok a w) (hb : (part e ys (j * c)).run P w = .ok b w) (he : (Op.equalIn d e a b).run P w = .ok r w) (hr : (Op.eqItems d e c xs ys js).run P w = .ok s w) :
    (Op.eqItems d e c xs ys (j :: js)).run P w = .ok (r && s) w := by
  simp only [Op.eqItems, Sem.run_bind, ha, hb, he, Result.andThen_ok]
  cases r <;> simp [hr]
theorem eqi_last (ha : (part e xs (j * c)).run P w = .ok a w) (hb : (part e ys (j * c)).run P w = .ok b w) (he : (Op.equalIn d e a b).run P w = .ok r w) :
    (Op.eqItems d e c xs ys [j]).run P w = .ok r w := by
  have h := eqi_cons ha hb he (eqi_nil (P := P) (w := w) (d := d) (e := e) (c := c) (xs := xs) (ys := ys))
  rwa [Bool.and_true] at h
end
end Go.Proofs.Ytkbaghblchlcnaa
namespace Go.Proofs.Ytkbaghblchlcnaa
open Go.RowKit Go.Shelf
attribute [local go_sem] Oper.semAt_some cell_row frozen_row isRow_setCell_eq rowAt_setCell_same rowAt_setCell_other isRow_alloc_eq rowAt_alloc rowAt_new isRow_setRow_eq rowAt_setRow_same rowAt_setRow_other isRow_drew rowAt_drew size_setRow_ Lb_size Lb_at blk_ptr aggOf_agg below_alloc_r below_setCell_r below_setRow_r below_drew_r le_add_r RC_size RC_get0 RC_at0 RC_set0 RC_get1 RC_at1 RC_set1 RC_get2 RC_at2 RC_set2 RC_get3 RC_at3 RC_set3 RC_get4 RC_at4 RC_set4 RC_get5 RC_at5 RC_set5 zeroF RC_ext RC_spl RC_one offv_ptr one_lad zero_lad allOne_nil allOne_cons Value.oneCell' zero_rc
attribute [local go_sem ↓] loadF storeF loadA storeA loadM storeM
theorem eq2i (d : Nat) (w : World) (x0 y0 : Int) (x1 y1 : Int) :
    (Op.equalIn (d + 2) 28 (.agg #[.int .i64 x0, .int .i64 x1]) (.agg #[.int .i64 y0, .int .i64 y1])).run Try.prog w = .ok (x0 == y0 && (x1 == y1)) w := by
  obtain ⟨i, hi⟩ := Option.isSome_iff_exists.1 (show (Try.prog.info? 3).isSome = true by kernel_rfl)
  refine eqArr_of Try.underlying28 hi (show Try.prog.cellsOf 3 = 1 by kernel_rfl) (by rfl) ?_
  refine eqi_cons (by go_simp; rfl) (by go_simp; rfl) (by go_simp) ?_
  exact eqi_last (by go_simp; rfl) (by go_simp; rfl) (by go_simp)
theorem eq2b (d : Nat) (w : World) (x0 y0 : Bool) (x1 y1 : Bool) :
    (Op.equalIn (d + 2) 29 (.agg #[.bool x0, .bool x1]) (.agg #[.bool y0, .bool y1])).run Try.prog w = .ok (x0 == y0 && (x1 == y1)) w := by
  obtain ⟨i, hi⟩ := Option.isSome_iff_exists.1 (show (Try.prog.info? 4).isSome = true by kernel_rfl)
  refine eqArr_of Try.underlying29 hi (show Try.prog.cellsOf 4 = 1 by kernel_rfl) (by rfl) ?_
  refine eqi_cons (by go_simp; rfl) (by go_simp; rfl) (by go_simp) ?_
  exact eqi_last (by go_simp; rfl) (by go_simp; rfl) (by go_simp)
end Go.Proofs.Ytkbaghblchlcnaa
namespace Go.Proofs.Ytkbaghblchlcnaa
open Go.RowKit Go.Shelf
theorem infoI : (Try.prog.info? 35).map (·.size) = some 8 := by kernel_rfl
theorem infoC : (Try.prog.info? 47).map (·.size) = some 4 := by kernel_rfl
section
variable {w : World} {ρ : Operand → Value} {x y : Operand} {dst : Option Tmp} {t0 : TypeId} {pos : String} {af : Array Edge} {gd : Option (Nat × Bool)}
theorem storeI (hx : ρ x = .pointer (some ⟨blk (ρ x), 0, none⟩)) (hy : ρ y = .agg (aggOf (ρ y))) (h : isRow w (blk (ρ x))) (hs : (rowAt w (blk (ρ x))).size = 8) (hc : (aggOf (ρ y)).size = 8) (h1 : AllOne (aggOf (ρ y))) : (execOp ρ { dst := dst, op := .store 35 x y, type := t0, pos := pos, after := af, guard := gd }).run Try.prog w = .ok .skip (w.setRow (blk (ρ x)) (aggOf (ρ y))) := run_store_op infoI hx hy h hs hc h1
theorem storeC (hx : ρ x = .pointer (some ⟨blk (ρ x), 0, none⟩)) (hy : ρ y = .agg (aggOf (ρ y))) (h : isRow w (blk (ρ x))) (hs : (rowAt w (blk (ρ x))).size = 4) (hc : (aggOf (ρ y)).size = 4) (h1 : AllOne (aggOf (ρ y))) : (execOp ρ { dst := dst, op := .store 47 x y, type := t0, pos := pos, after := af, guard := gd }).run Try.prog w = .ok .skip (w.setRow (blk (ρ x)) (aggOf (ρ y))) := run_store_op infoC hx hy h hs hc h1
end
theorem eq2u (d : Nat) (w : World) (x0 y0 : Int) (x1 y1 : Int) :
    (Op.equalIn (d + 2) 31 (.agg #[.int .u32 x0, .int .u32 x1]) (.agg #[.int .u32 y0, .int .u32 y1])).run Try.prog w = .ok (x0 == y0 && (x1 == y1)) w := by
  obtain ⟨i, hi⟩ := Option.isSome_iff_exists.1 (show (Try.prog.info? 30).isSome = true by kernel_rfl)
  refine eqArr_of Try.underlying31 hi (show Try.prog.cellsOf 30 = 1 by kernel_rfl) (by rfl) ?_
  refine eqi_cons (by go_simp; rfl) (by go_simp; rfl) (by go_simp) ?_
  exact eqi_last (by go_simp; rfl) (by go_simp; rfl) (by go_simp)
end Go.Proofs.Ytkbaghblchlcnaa
