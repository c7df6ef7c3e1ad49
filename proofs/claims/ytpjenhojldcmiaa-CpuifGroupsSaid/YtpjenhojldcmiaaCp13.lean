/- Contracts by hand: one deed on an interface and on the document's. -/
import Derived.Test.YtpjenhojldcmiaaCp12
import Derived.Test.YtpjenhojldcmiaaCp9
namespace Go.Proofs.Ytpjenhojldcmiaa
open Go.RowKit Go.Shelf
attribute [local go_sem] Oper.semAt_some cell_row frozen_row isRow_setCell_eq rowAt_setCell_same rowAt_setCell_other isRow_alloc_eq rowAt_alloc rowAt_new isRow_setRow_eq rowAt_setRow_same rowAt_setRow_other isRow_drew rowAt_drew size_setRow_ Lb_size Lb_at blk_ptr aggOf_agg below_alloc_r below_setCell_r below_setRow_r below_drew_r le_add_r RC_size RC_get0 RC_at0 RC_set0 RC_get1 RC_at1 RC_set1 RC_get2 RC_at2 RC_set2 RC_get3 RC_at3 RC_set3 RC_get4 RC_at4 RC_set4 RC_get5 RC_at5 RC_set5 zeroF RC_ext RC_spl RC_one offv_ptr one_lad zero_lad allOne_nil allOne_cons Value.oneCell' zero_rc
attribute [local go_sem ↓] loadF storeF loadA storeA loadM storeM
theorem Aside.low {g : Nat} {w W W' : World} (h : Aside g w W) (b : Below w.heap.size W W') : Aside g w W' := ⟨b.os.trans h.os, b.tape.trans h.tape, b.output.trans h.output, Nat.le_trans h.size b.size, fun k hk hne => (b.block k hk).trans (h.block k hk hne)⟩
set_option maxRecDepth 100000 in
set_option maxHeartbeats 1000000 in
theorem does1_g (g : Nat) (m p0 p1 : Int) (o0 o1 sp : Bool) (f : Nat → Bool) (a b : Int) (m' p0' p1' : Int) (o0' o1' sp' : Bool) (f' : Nat → Bool) (a' b' : Int) (gp id pr gr : Int) (is : Bool) (r v res : Int) (tk : Bool)
    (hT : (∀ W : World, isRow W g → rowAt W g = #[.int .i64 m, .int .i64 p0, .int .i64 p1, .bool o0, .bool o1, .bool sp, .int .u32 a, .int .u32 b] → Calls Try.prog 10 #[.pointer (some ⟨g, 0, none⟩), .agg #[.int .i64 id, .int .i64 pr, .int .i64 gr, .bool is], .int .i64 gp] W fun e w' => e = .returned (.tuple #[.int .i64 res, .bool tk]) ∧ Row w' g #[.int .i64 m', .int .i64 p0', .int .i64 p1', .bool o0', .bool o1', .bool sp', .int .u32 a', .int .u32 b'] ∧ Aside g W w'))
    (hR : (∀ W : World, Calls Try.prog 41 #[.agg (RC m p0 p1 o0 o1 sp f), .agg #[.int .i64 id, .int .i64 pr, .int .i64 gr, .bool is], .int .i64 gp] W fun e w' => e = .returned (.tuple #[.agg (RC m' p0' p1' o0' o1' sp' f'), .int .i64 res, .bool tk]) ∧ Below W.heap.size W w'))
    (w : World) (hr : isRow w g) (hr' : rowAt w g = #[.int .i64 m, .int .i64 p0, .int .i64 p1, .bool o0, .bool o1, .bool sp, .int .u32 a, .int .u32 b]) :
    Calls Try.prog 22 #[.pointer (some ⟨g, 0, none⟩), .agg (RC m p0 p1 o0 o1 sp f), .agg #[.int .i64 1, .int .i64 gp, .int .i64 id, .int .i64 pr, .int .i64 gr, .bool is, .int .i64 r, .int .u64 v]] w fun e w' => e = .returned (.tuple #[.agg (RC m' p0' p1' o0' o1' sp' f'), .bool true]) ∧ Row w' g #[.int .i64 m', .int .i64 p0', .int .i64 p1', .bool o0', .bool o1', .bool sp', .int .u32 a', .int .u32 b'] ∧ Aside g w w' := by
  have HT := Lib.hid hT
  have HR := Lib.hid hR
  clear hT hR
  have hlt := isRow.lt hr
  have hA0 : Aside g w (((w.alloc (.cells (RC m p0 p1 o0 o1 sp f) 61)).alloc (.cells #[.int .i64 1, .int .i64 gp, .int .i64 id, .int .i64 pr, .int .i64 gr, .bool is, .int .i64 r, .int .u64 v] 64)).alloc (.cells (RC 0 0 0 false false false fun _ => false) 61)) := Aside.of_below ((((Below.refl _ w).alloc (Nat.le_refl _) _).alloc (by simp) _).alloc (by simp; omega) _)
  obtain ⟨R0, R0'⟩ : Row (((w.alloc (.cells (RC m p0 p1 o0 o1 sp f) 61)).alloc (.cells #[.int .i64 1, .int .i64 gp, .int .i64 id, .int .i64 pr, .int .i64 gr, .bool is, .int .i64 r, .int .u64 v] 64)).alloc (.cells (RC 0 0 0 false false false fun _ => false) 61)) w.heap.size (RC m p0 p1 o0 o1 sp f) := Row.of (((BoxN.new w 61 (RC m p0 p1 o0 o1 sp f)).alloc _).alloc _)
  obtain ⟨R1, R1'⟩ : Row (((w.alloc (.cells (RC m p0 p1 o0 o1 sp f) 61)).alloc (.cells #[.int .i64 1, .int .i64 gp, .int .i64 id, .int .i64 pr, .int .i64 gr, .bool is, .int .i64 r, .int .u64 v] 64)).alloc (.cells (RC 0 0 0 false false false fun _ => false) 61)) (w.heap.size + 1) #[.int .i64 1, .int .i64 gp, .int .i64 id, .int .i64 pr, .int .i64 gr, .bool is, .int .i64 r, .int .u64 v] := (by (have this := (BoxN.new (w.alloc (.cells (RC m p0 p1 o0 o1 sp f) 61)) 64 #[.int .i64 1, .int .i64 gp, .int .i64 id, .int .i64 pr, .int .i64 gr, .bool is, .int .i64 r, .int .u64 v]).alloc (.cells (RC 0 0 0 false false false fun _ => false) 61)); rw [World.size_alloc] at this; exact Row.of this)
  obtain ⟨R2, R2'⟩ : Row (((w.alloc (.cells (RC m p0 p1 o0 o1 sp f) 61)).alloc (.cells #[.int .i64 1, .int .i64 gp, .int .i64 id, .int .i64 pr, .int .i64 gr, .bool is, .int .i64 r, .int .u64 v] 64)).alloc (.cells (RC 0 0 0 false false false fun _ => false) 61)) (w.heap.size + 2) (RC 0 0 0 false false false fun _ => false) := (by (have this := BoxN.new ((w.alloc (.cells (RC m p0 p1 o0 o1 sp f) 61)).alloc (.cells #[.int .i64 1, .int .i64 gp, .int .i64 id, .int .i64 pr, .int .i64 gr, .bool is, .int .i64 r, .int .u64 v] 64)) 61 (RC 0 0 0 false false false fun _ => false)); rw [World.size_alloc, World.size_alloc] at this; exact Row.of this)
  obtain ⟨Rg, Rg'⟩ : Row (((w.alloc (.cells (RC m p0 p1 o0 o1 sp f) 61)).alloc (.cells #[.int .i64 1, .int .i64 gp, .int .i64 id, .int .i64 pr, .int .i64 gr, .bool is, .int .i64 r, .int .u64 v] 64)).alloc (.cells (RC 0 0 0 false false false fun _ => false) 61)) g #[.int .i64 m, .int .i64 p0, .int .i64 p1, .bool o0, .bool o1, .bool sp, .int .u32 a, .int .u32 b] := ⟨isRow_alloc (isRow_alloc (isRow_alloc hr)), by rw [rowAt_alloc (isRow_alloc (isRow_alloc hr)), rowAt_alloc (isRow_alloc hr), rowAt_alloc hr]; exact hr'⟩
  clear hr hr'
  go_enter Try.func22, Try.ntmps22
  go_wp2_with fail
  refine (HT.out _ (by assumption) (by assumption)).mono ?_
  rintro e w1 ⟨rfl, ⟨Xg, Xg'⟩, hA1⟩
  obtain ⟨X0, X0'⟩ : Row w1 w.heap.size (RC m p0 p1 o0 o1 sp f) := hA1.row ⟨R0, R0'⟩ (by omega)
  obtain ⟨X1, X1'⟩ : Row w1 (w.heap.size + 1) #[.int .i64 1, .int .i64 gp, .int .i64 id, .int .i64 pr, .int .i64 gr, .bool is, .int .i64 r, .int .u64 v] := hA1.row ⟨R1, R1'⟩ (by omega)
  obtain ⟨X2, X2'⟩ : Row w1 (w.heap.size + 2) (RC 0 0 0 false false false fun _ => false) := hA1.row ⟨R2, R2'⟩ (by omega)
  have A1 : Aside g w w1 := hA0.trans hA1
  clear R0 R0' R1 R1' R2 R2' Rg Rg' hA0 hA1
  go_wp2_with fail
  refine (HR.out _).mono ?_
  rintro e w2 ⟨rfl, hb2⟩
  obtain ⟨Yg, Yg'⟩ := Row.step Xg Xg' hb2
  obtain ⟨Y0, Y0'⟩ := Row.step X0 X0' hb2
  obtain ⟨Y1, Y1'⟩ := Row.step X1 X1' hb2
  obtain ⟨Y2, Y2'⟩ := Row.step X2 X2' hb2
  have A2 : Aside g w w2 := A1.low (hb2.mono A1.size)
  have n0 : ¬ w.heap.size + 2 = w2.heap.size := by have := Y2.lt; omega
  have n1 : ¬ w2.heap.size = w.heap.size + 2 := by have := Y2.lt; omega
  have n2 : ¬ g = w2.heap.size := by have := Yg.lt; omega
  have n3 : ¬ g = w.heap.size + 2 := by omega
  have hz := A2.size
  clear X0 X0' X1 X1' X2 X2' Xg Xg' A1 hb2
  go_wp2_with fail
  have hb : Below w.heap.size w2 (((w2.alloc (.cells (RC 0 0 0 false false false fun _ => false) 61)).setRow w2.heap.size (RC m' p0' p1' o0' o1' sp' f')).setRow (w.heap.size + 2) (RC m' p0' p1' o0' o1' sp' f')) := below_setRow (below_setRow (((Below.refl _ w2).mono hz).alloc hz _) hz _) (by omega) _
  exact bodyPost_ret (resF rfl _ rfl (Row.setRow (by go_simp)) RC_size rfl) rfl ⟨rfl, ⟨by go_simp, by go_simp⟩, A2.low hb⟩
set_option maxRecDepth 100000 in
set_option maxHeartbeats 1000000 in
theorem does2_g (g : Nat) (m p0 p1 : Int) (o0 o1 sp : Bool) (f : Nat → Bool) (a b : Int) (m' p0' p1' : Int) (o0' o1' sp' : Bool) (f' : Nat → Bool) (a' b' : Int) (gp id pr gr : Int) (is : Bool) (r v _res : Int) (tk : Bool)
    (hT : (∀ W : World, isRow W g → rowAt W g = #[.int .i64 m, .int .i64 p0, .int .i64 p1, .bool o0, .bool o1, .bool sp, .int .u32 a, .int .u32 b] → Calls Try.prog 14 #[.pointer (some ⟨g, 0, none⟩), .int .i64 gp] W fun e w' => e = .returned (.bool tk) ∧ Row w' g #[.int .i64 m', .int .i64 p0', .int .i64 p1', .bool o0', .bool o1', .bool sp', .int .u32 a', .int .u32 b'] ∧ Aside g W w'))
    (hR : (∀ W : World, Calls Try.prog 42 #[.agg (RC m p0 p1 o0 o1 sp f), .int .i64 gp] W fun e w' => e = .returned (.tuple #[.agg (RC m' p0' p1' o0' o1' sp' f'), .bool tk]) ∧ Below W.heap.size W w'))
    (w : World) (hr : isRow w g) (hr' : rowAt w g = #[.int .i64 m, .int .i64 p0, .int .i64 p1, .bool o0, .bool o1, .bool sp, .int .u32 a, .int .u32 b]) :
    Calls Try.prog 22 #[.pointer (some ⟨g, 0, none⟩), .agg (RC m p0 p1 o0 o1 sp f), .agg #[.int .i64 2, .int .i64 gp, .int .i64 id, .int .i64 pr, .int .i64 gr, .bool is, .int .i64 r, .int .u64 v]] w fun e w' => e = .returned (.tuple #[.agg (RC m' p0' p1' o0' o1' sp' f'), .bool true]) ∧ Row w' g #[.int .i64 m', .int .i64 p0', .int .i64 p1', .bool o0', .bool o1', .bool sp', .int .u32 a', .int .u32 b'] ∧ Aside g w w' := by
  have HT := Lib.hid hT
  have HR := Lib.hid hR
  clear hT hR
  have hlt := isRow.lt hr
  have hA0 : Aside g w (((w.alloc (.cells (RC m p0 p1 o0 o1 sp f) 61)).alloc (.cells #[.int .i64 2, .int .i64 gp, .int .i64 id, .int .i64 pr, .int .i64 gr, .bool is, .int .i64 r, .int .u64 v] 64)).alloc (.cells (RC 0 0 0 false false false fun _ => false) 61)) := Aside.of_below ((((Below.refl _ w).alloc (Nat.le_refl _) _).alloc (by simp) _).alloc (by simp; omega) _)
  obtain ⟨R0, R0'⟩ : Row (((w.alloc (.cells (RC m p0 p1 o0 o1 sp f) 61)).alloc (.cells #[.int .i64 2, .int .i64 gp, .int .i64 id, .int .i64 pr, .int .i64 gr, .bool is, .int .i64 r, .int .u64 v] 64)).alloc (.cells (RC 0 0 0 false false false fun _ => false) 61)) w.heap.size (RC m p0 p1 o0 o1 sp f) := Row.of (((BoxN.new w 61 (RC m p0 p1 o0 o1 sp f)).alloc _).alloc _)
  obtain ⟨R1, R1'⟩ : Row (((w.alloc (.cells (RC m p0 p1 o0 o1 sp f) 61)).alloc (.cells #[.int .i64 2, .int .i64 gp, .int .i64 id, .int .i64 pr, .int .i64 gr, .bool is, .int .i64 r, .int .u64 v] 64)).alloc (.cells (RC 0 0 0 false false false fun _ => false) 61)) (w.heap.size + 1) #[.int .i64 2, .int .i64 gp, .int .i64 id, .int .i64 pr, .int .i64 gr, .bool is, .int .i64 r, .int .u64 v] := (by (have this := (BoxN.new (w.alloc (.cells (RC m p0 p1 o0 o1 sp f) 61)) 64 #[.int .i64 2, .int .i64 gp, .int .i64 id, .int .i64 pr, .int .i64 gr, .bool is, .int .i64 r, .int .u64 v]).alloc (.cells (RC 0 0 0 false false false fun _ => false) 61)); rw [World.size_alloc] at this; exact Row.of this)
  obtain ⟨R2, R2'⟩ : Row (((w.alloc (.cells (RC m p0 p1 o0 o1 sp f) 61)).alloc (.cells #[.int .i64 2, .int .i64 gp, .int .i64 id, .int .i64 pr, .int .i64 gr, .bool is, .int .i64 r, .int .u64 v] 64)).alloc (.cells (RC 0 0 0 false false false fun _ => false) 61)) (w.heap.size + 2) (RC 0 0 0 false false false fun _ => false) := (by (have this := BoxN.new ((w.alloc (.cells (RC m p0 p1 o0 o1 sp f) 61)).alloc (.cells #[.int .i64 2, .int .i64 gp, .int .i64 id, .int .i64 pr, .int .i64 gr, .bool is, .int .i64 r, .int .u64 v] 64)) 61 (RC 0 0 0 false false false fun _ => false)); rw [World.size_alloc, World.size_alloc] at this; exact Row.of this)
  obtain ⟨Rg, Rg'⟩ : Row (((w.alloc (.cells (RC m p0 p1 o0 o1 sp f) 61)).alloc (.cells #[.int .i64 2, .int .i64 gp, .int .i64 id, .int .i64 pr, .int .i64 gr, .bool is, .int .i64 r, .int .u64 v] 64)).alloc (.cells (RC 0 0 0 false false false fun _ => false) 61)) g #[.int .i64 m, .int .i64 p0, .int .i64 p1, .bool o0, .bool o1, .bool sp, .int .u32 a, .int .u32 b] := ⟨isRow_alloc (isRow_alloc (isRow_alloc hr)), by rw [rowAt_alloc (isRow_alloc (isRow_alloc hr)), rowAt_alloc (isRow_alloc hr), rowAt_alloc hr]; exact hr'⟩
  clear hr hr'
  go_enter Try.func22, Try.ntmps22
  go_wp2_with fail
  refine (HT.out _ (by assumption) (by assumption)).mono ?_
  rintro e w1 ⟨rfl, ⟨Xg, Xg'⟩, hA1⟩
  obtain ⟨X0, X0'⟩ : Row w1 w.heap.size (RC m p0 p1 o0 o1 sp f) := hA1.row ⟨R0, R0'⟩ (by omega)
  obtain ⟨X1, X1'⟩ : Row w1 (w.heap.size + 1) #[.int .i64 2, .int .i64 gp, .int .i64 id, .int .i64 pr, .int .i64 gr, .bool is, .int .i64 r, .int .u64 v] := hA1.row ⟨R1, R1'⟩ (by omega)
  obtain ⟨X2, X2'⟩ : Row w1 (w.heap.size + 2) (RC 0 0 0 false false false fun _ => false) := hA1.row ⟨R2, R2'⟩ (by omega)
  have A1 : Aside g w w1 := hA0.trans hA1
  clear R0 R0' R1 R1' R2 R2' Rg Rg' hA0 hA1
  go_wp2_with fail
  refine (HR.out _).mono ?_
  rintro e w2 ⟨rfl, hb2⟩
  obtain ⟨Yg, Yg'⟩ := Row.step Xg Xg' hb2
  obtain ⟨Y0, Y0'⟩ := Row.step X0 X0' hb2
  obtain ⟨Y1, Y1'⟩ := Row.step X1 X1' hb2
  obtain ⟨Y2, Y2'⟩ := Row.step X2 X2' hb2
  have A2 : Aside g w w2 := A1.low (hb2.mono A1.size)
  have n0 : ¬ w.heap.size + 2 = w2.heap.size := by have := Y2.lt; omega
  have n1 : ¬ w2.heap.size = w.heap.size + 2 := by have := Y2.lt; omega
  have n2 : ¬ g = w2.heap.size := by have := Yg.lt; omega
  have n3 : ¬ g = w.heap.size + 2 := by omega
  have hz := A2.size
  clear X0 X0' X1 X1' X2 X2' Xg Xg' A1 hb2
  go_wp2_with fail
  have hb : Below w.heap.size w2 (((w2.alloc (.cells (RC 0 0 0 false false false fun _ => false) 61)).setRow w2.heap.size (RC m' p0' p1' o0' o1' sp' f')).setRow (w.heap.size + 2) (RC m' p0' p1' o0' o1' sp' f')) := below_setRow (below_setRow (((Below.refl _ w2).mono hz).alloc hz _) hz _) (by omega) _
  exact bodyPost_ret (resF rfl _ rfl (Row.setRow (by go_simp)) RC_size rfl) rfl ⟨rfl, ⟨by go_simp, by go_simp⟩, A2.low hb⟩
set_option maxRecDepth 100000 in
set_option maxHeartbeats 1000000 in
theorem does3_g (g : Nat) (m p0 p1 : Int) (o0 o1 sp : Bool) (f : Nat → Bool) (a b : Int) (m' p0' p1' : Int) (o0' o1' sp' : Bool) (f' : Nat → Bool) (a' b' : Int) (gp id pr gr : Int) (is : Bool) (r v _res : Int) (tk : Bool)
    (hT : (∀ W : World, isRow W g → rowAt W g = #[.int .i64 m, .int .i64 p0, .int .i64 p1, .bool o0, .bool o1, .bool sp, .int .u32 a, .int .u32 b] → Calls Try.prog 15 #[.pointer (some ⟨g, 0, none⟩), .int .i64 r, .int .u64 v] W fun e w' => e = .returned (.bool tk) ∧ Row w' g #[.int .i64 m', .int .i64 p0', .int .i64 p1', .bool o0', .bool o1', .bool sp', .int .u32 a', .int .u32 b'] ∧ Aside g W w'))
    (hR : (∀ W : World, Calls Try.prog 43 #[.agg (RC m p0 p1 o0 o1 sp f), .int .i64 r, .int .u64 v] W fun e w' => e = .returned (.tuple #[.agg (RC m' p0' p1' o0' o1' sp' f'), .bool tk]) ∧ Below W.heap.size W w'))
    (w : World) (hr : isRow w g) (hr' : rowAt w g = #[.int .i64 m, .int .i64 p0, .int .i64 p1, .bool o0, .bool o1, .bool sp, .int .u32 a, .int .u32 b]) :
    Calls Try.prog 22 #[.pointer (some ⟨g, 0, none⟩), .agg (RC m p0 p1 o0 o1 sp f), .agg #[.int .i64 3, .int .i64 gp, .int .i64 id, .int .i64 pr, .int .i64 gr, .bool is, .int .i64 r, .int .u64 v]] w fun e w' => e = .returned (.tuple #[.agg (RC m' p0' p1' o0' o1' sp' f'), .bool true]) ∧ Row w' g #[.int .i64 m', .int .i64 p0', .int .i64 p1', .bool o0', .bool o1', .bool sp', .int .u32 a', .int .u32 b'] ∧ Aside g w w' := by
  have HT := Lib.hid hT
  have HR := Lib.hid hR
  clear hT hR
  have hlt := isRow.lt hr
  have hA0 : Aside g w (((w.alloc (.cells (RC m p0 p1 o0 o1 sp f) 61)).alloc (.cells #[.int .i64 3, .int .i64 gp, .int .i64 id, .int .i64 pr, .int .i64 gr, .bool is, .int .i64 r, .int .u64 v] 64)).alloc (.cells (RC 0 0 0 false false false fun _ => false) 61)) := Aside.of_below ((((Below.refl _ w).alloc (Nat.le_refl _) _).alloc (by simp) _).alloc (by simp; omega) _)
  obtain ⟨R0, R0'⟩ : Row (((w.alloc (.cells (RC m p0 p1 o0 o1 sp f) 61)).alloc (.cells #[.int .i64 3, .int .i64 gp, .int .i64 id, .int .i64 pr, .int .i64 gr, .bool is, .int .i64 r, .int .u64 v] 64)).alloc (.cells (RC 0 0 0 false false false fun _ => false) 61)) w.heap.size (RC m p0 p1 o0 o1 sp f) := Row.of (((BoxN.new w 61 (RC m p0 p1 o0 o1 sp f)).alloc _).alloc _)
  obtain ⟨R1, R1'⟩ : Row (((w.alloc (.cells (RC m p0 p1 o0 o1 sp f) 61)).alloc (.cells #[.int .i64 3, .int .i64 gp, .int .i64 id, .int .i64 pr, .int .i64 gr, .bool is, .int .i64 r, .int .u64 v] 64)).alloc (.cells (RC 0 0 0 false false false fun _ => false) 61)) (w.heap.size + 1) #[.int .i64 3, .int .i64 gp, .int .i64 id, .int .i64 pr, .int .i64 gr, .bool is, .int .i64 r, .int .u64 v] := (by (have this := (BoxN.new (w.alloc (.cells (RC m p0 p1 o0 o1 sp f) 61)) 64 #[.int .i64 3, .int .i64 gp, .int .i64 id, .int .i64 pr, .int .i64 gr, .bool is, .int .i64 r, .int .u64 v]).alloc (.cells (RC 0 0 0 false false false fun _ => false) 61)); rw [World.size_alloc] at this; exact Row.of this)
  obtain ⟨R2, R2'⟩ : Row (((w.alloc (.cells (RC m p0 p1 o0 o1 sp f) 61)).alloc (.cells #[.int .i64 3, .int .i64 gp, .int .i64 id, .int .i64 pr, .int .i64 gr, .bool is, .int .i64 r, .int .u64 v] 64)).alloc (.cells (RC 0 0 0 false false false fun _ => false) 61)) (w.heap.size + 2) (RC 0 0 0 false false false fun _ => false) := (by (have this := BoxN.new ((w.alloc (.cells (RC m p0 p1 o0 o1 sp f) 61)).alloc (.cells #[.int .i64 3, .int .i64 gp, .int .i64 id, .int .i64 pr, .int .i64 gr, .bool is, .int .i64 r, .int .u64 v] 64)) 61 (RC 0 0 0 false false false fun _ => false)); rw [World.size_alloc, World.size_alloc] at this; exact Row.of this)
  obtain ⟨Rg, Rg'⟩ : Row (((w.alloc (.cells (RC m p0 p1 o0 o1 sp f) 61)).alloc (.cells #[.int .i64 3, .int .i64 gp, .int .i64 id, .int .i64 pr, .int .i64 gr, .bool is, .int .i64 r, .int .u64 v] 64)).alloc (.cells (RC 0 0 0 false false false fun _ => false) 61)) g #[.int .i64 m, .int .i64 p0, .int .i64 p1, .bool o0, .bool o1, .bool sp, .int .u32 a, .int .u32 b] := ⟨isRow_alloc (isRow_alloc (isRow_alloc hr)), by rw [rowAt_alloc (isRow_alloc (isRow_alloc hr)), rowAt_alloc (isRow_alloc hr), rowAt_alloc hr]; exact hr'⟩
  clear hr hr'
  go_enter Try.func22, Try.ntmps22
  go_wp2_with fail
  refine (HT.out _ (by assumption) (by assumption)).mono ?_
  rintro e w1 ⟨rfl, ⟨Xg, Xg'⟩, hA1⟩
  obtain ⟨X0, X0'⟩ : Row w1 w.heap.size (RC m p0 p1 o0 o1 sp f) := hA1.row ⟨R0, R0'⟩ (by omega)
  obtain ⟨X1, X1'⟩ : Row w1 (w.heap.size + 1) #[.int .i64 3, .int .i64 gp, .int .i64 id, .int .i64 pr, .int .i64 gr, .bool is, .int .i64 r, .int .u64 v] := hA1.row ⟨R1, R1'⟩ (by omega)
  obtain ⟨X2, X2'⟩ : Row w1 (w.heap.size + 2) (RC 0 0 0 false false false fun _ => false) := hA1.row ⟨R2, R2'⟩ (by omega)
  have A1 : Aside g w w1 := hA0.trans hA1
  clear R0 R0' R1 R1' R2 R2' Rg Rg' hA0 hA1
  go_wp2_with fail
  refine (HR.out _).mono ?_
  rintro e w2 ⟨rfl, hb2⟩
  obtain ⟨Yg, Yg'⟩ := Row.step Xg Xg' hb2
  obtain ⟨Y0, Y0'⟩ := Row.step X0 X0' hb2
  obtain ⟨Y1, Y1'⟩ := Row.step X1 X1' hb2
  obtain ⟨Y2, Y2'⟩ := Row.step X2 X2' hb2
  have A2 : Aside g w w2 := A1.low (hb2.mono A1.size)
  have n0 : ¬ w.heap.size + 2 = w2.heap.size := by have := Y2.lt; omega
  have n1 : ¬ w2.heap.size = w.heap.size + 2 := by have := Y2.lt; omega
  have n2 : ¬ g = w2.heap.size := by have := Yg.lt; omega
  have n3 : ¬ g = w.heap.size + 2 := by omega
  have hz := A2.size
  clear X0 X0' X1 X1' X2 X2' Xg Xg' A1 hb2
  go_wp2_with fail
  have hb : Below w.heap.size w2 (((w2.alloc (.cells (RC 0 0 0 false false false fun _ => false) 61)).setRow w2.heap.size (RC m' p0' p1' o0' o1' sp' f')).setRow (w.heap.size + 2) (RC m' p0' p1' o0' o1' sp' f')) := below_setRow (below_setRow (((Below.refl _ w2).mono hz).alloc hz _) hz _) (by omega) _
  exact bodyPost_ret (resF rfl _ rfl (Row.setRow (by go_simp)) RC_size rfl) rfl ⟨rfl, ⟨by go_simp, by go_simp⟩, A2.low hb⟩
end Go.Proofs.Ytpjenhojldcmiaa
