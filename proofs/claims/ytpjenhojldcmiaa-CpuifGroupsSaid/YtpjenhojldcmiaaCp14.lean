/- Contracts by hand: any deed; a fresh interface; how deep. -/
import Derived.Test.YtpjenhojldcmiaaCp13
import Derived.Test.YtpjenhojldcmiaaPop
import Derived.Test.YtpjenhojldcmiaaCp7
import Derived.Test.YtpjenhojldcmiaaCp8
namespace Go.Proofs.Ytpjenhojldcmiaa
open Go.RowKit Go.Shelf
attribute [local go_sem] Oper.semAt_some cell_row frozen_row isRow_setCell_eq rowAt_setCell_same rowAt_setCell_other isRow_alloc_eq rowAt_alloc rowAt_new isRow_setRow_eq rowAt_setRow_same rowAt_setRow_other isRow_drew rowAt_drew size_setRow_ Lb_size Lb_at blk_ptr aggOf_agg below_alloc_r below_setCell_r below_setRow_r below_drew_r le_add_r RC_size RC_get0 RC_at0 RC_set0 RC_get1 RC_at1 RC_set1 RC_get2 RC_at2 RC_set2 RC_get3 RC_at3 RC_set3 RC_get4 RC_at4 RC_set4 RC_get5 RC_at5 RC_set5 zeroF RC_ext RC_spl RC_one offv_ptr one_lad zero_lad allOne_nil allOne_cons Value.oneCell' zero_rc
attribute [local go_sem ↓] loadF storeF loadA storeA loadM storeM
set_option maxRecDepth 100000 in
set_option maxHeartbeats 1000000 in
theorem does0_g (g : Nat) (m p0 p1 : Int) (o0 o1 sp : Bool) (f : Nat → Bool) (a b d : Int) (gp id pr gr : Int) (is : Bool) (r v : Int) (e1 : (d == 1) = false) (e2 : (d == 2) = false) (e3 : (d == 3) = false)
    (w : World) (hr : isRow w g) (hr' : rowAt w g = #[.int .i64 m, .int .i64 p0, .int .i64 p1, .bool o0, .bool o1, .bool sp, .int .u32 a, .int .u32 b]) :
    Calls Try.prog 22 #[.pointer (some ⟨g, 0, none⟩), .agg (RC m p0 p1 o0 o1 sp f), .agg #[.int .i64 d, .int .i64 gp, .int .i64 id, .int .i64 pr, .int .i64 gr, .bool is, .int .i64 r, .int .u64 v]] w fun e w' => e = .returned (.tuple #[.agg (RC m p0 p1 o0 o1 sp f), .bool true]) ∧ Row w' g #[.int .i64 m, .int .i64 p0, .int .i64 p1, .bool o0, .bool o1, .bool sp, .int .u32 a, .int .u32 b] ∧ Aside g w w' := by
  have hlt := isRow.lt hr
  have hB : Below w.heap.size w (((w.alloc (.cells (RC m p0 p1 o0 o1 sp f) 61)).alloc (.cells #[.int .i64 d, .int .i64 gp, .int .i64 id, .int .i64 pr, .int .i64 gr, .bool is, .int .i64 r, .int .u64 v] 64)).alloc (.cells (RC 0 0 0 false false false fun _ => false) 61)) := (((Below.refl _ w).alloc (Nat.le_refl _) _).alloc (by simp) _).alloc (by simp; omega) _
  obtain ⟨R0, R0'⟩ : Row (((w.alloc (.cells (RC m p0 p1 o0 o1 sp f) 61)).alloc (.cells #[.int .i64 d, .int .i64 gp, .int .i64 id, .int .i64 pr, .int .i64 gr, .bool is, .int .i64 r, .int .u64 v] 64)).alloc (.cells (RC 0 0 0 false false false fun _ => false) 61)) w.heap.size (RC m p0 p1 o0 o1 sp f) := Row.of (((BoxN.new w 61 (RC m p0 p1 o0 o1 sp f)).alloc _).alloc _)
  obtain ⟨R1, R1'⟩ : Row (((w.alloc (.cells (RC m p0 p1 o0 o1 sp f) 61)).alloc (.cells #[.int .i64 d, .int .i64 gp, .int .i64 id, .int .i64 pr, .int .i64 gr, .bool is, .int .i64 r, .int .u64 v] 64)).alloc (.cells (RC 0 0 0 false false false fun _ => false) 61)) (w.heap.size + 1) #[.int .i64 d, .int .i64 gp, .int .i64 id, .int .i64 pr, .int .i64 gr, .bool is, .int .i64 r, .int .u64 v] := (by (have this := (BoxN.new (w.alloc (.cells (RC m p0 p1 o0 o1 sp f) 61)) 64 #[.int .i64 d, .int .i64 gp, .int .i64 id, .int .i64 pr, .int .i64 gr, .bool is, .int .i64 r, .int .u64 v]).alloc (.cells (RC 0 0 0 false false false fun _ => false) 61)); rw [World.size_alloc] at this; exact Row.of this)
  obtain ⟨R2, R2'⟩ : Row (((w.alloc (.cells (RC m p0 p1 o0 o1 sp f) 61)).alloc (.cells #[.int .i64 d, .int .i64 gp, .int .i64 id, .int .i64 pr, .int .i64 gr, .bool is, .int .i64 r, .int .u64 v] 64)).alloc (.cells (RC 0 0 0 false false false fun _ => false) 61)) (w.heap.size + 2) (RC 0 0 0 false false false fun _ => false) := (by (have this := BoxN.new ((w.alloc (.cells (RC m p0 p1 o0 o1 sp f) 61)).alloc (.cells #[.int .i64 d, .int .i64 gp, .int .i64 id, .int .i64 pr, .int .i64 gr, .bool is, .int .i64 r, .int .u64 v] 64)) 61 (RC 0 0 0 false false false fun _ => false)); rw [World.size_alloc, World.size_alloc] at this; exact Row.of this)
  obtain ⟨Rg, Rg'⟩ : Row (((w.alloc (.cells (RC m p0 p1 o0 o1 sp f) 61)).alloc (.cells #[.int .i64 d, .int .i64 gp, .int .i64 id, .int .i64 pr, .int .i64 gr, .bool is, .int .i64 r, .int .u64 v] 64)).alloc (.cells (RC 0 0 0 false false false fun _ => false) 61)) g #[.int .i64 m, .int .i64 p0, .int .i64 p1, .bool o0, .bool o1, .bool sp, .int .u32 a, .int .u32 b] := ⟨isRow_alloc (isRow_alloc (isRow_alloc hr)), by rw [rowAt_alloc (isRow_alloc (isRow_alloc hr)), rowAt_alloc (isRow_alloc hr), rowAt_alloc hr]; exact hr'⟩
  have n3 : ¬ g = w.heap.size + 2 := by omega
  have n4 : ¬ w.heap.size = w.heap.size + 2 := by omega
  clear hr hr'
  go_enter Try.func22, Try.ntmps22
  go_wp2_with fail
  exact bodyPost_ret (resF rfl _ rfl (Row.setRow (by go_simp)) RC_size rfl) rfl ⟨rfl, ⟨by go_simp, by go_simp⟩, Aside.of_below (below_setRow hB (by omega) _)⟩
theorem u32_ite {c : Prop} [Decidable c] {x y : Int} (hx : U32 x) (hy : U32 y) : U32 (if c then x else y) := by split; exact hx; exact hy
set_option maxHeartbeats 1000000 in
theorem does_c (g : Nat) (m p0 p1 : Int) (o0 o1 sp : Bool) (a b d : Int) (gp id pr gr : Int) (is : Bool) (r v : Int) (ha : U32 a) (hb : U32 b) (hv0 : 0 ≤ v) (hv1 : v ≤ 18446744073709551615) (w : World) (hr : isRow w g) (hr' : rowAt w g = #[.int .i64 m, .int .i64 p0, .int .i64 p1, .bool o0, .bool o1, .bool sp, .int .u32 a, .int .u32 b]) :
    Calls Try.prog 22 #[.pointer (some ⟨g, 0, none⟩), .agg (RC m p0 p1 o0 o1 sp (rb a b)), .agg #[.int .i64 d, .int .i64 gp, .int .i64 id, .int .i64 pr, .int .i64 gr, .bool is, .int .i64 r, .int .u64 v]] w fun e w' => ∃ m' p0' p1' o0' o1' sp' a' b', U32 a' ∧ U32 b' ∧ e = .returned (.tuple #[.agg (RC m' p0' p1' o0' o1' sp' (rb a' b')), .bool true]) ∧ Row w' g #[.int .i64 m', .int .i64 p0', .int .i64 p1', .bool o0', .bool o1', .bool sp', .int .u32 a', .int .u32 b'] ∧ Aside g w w' := by
  by_cases h1 : d = 1
  · subst h1
    refine (does1_g g m p0 p1 o0 o1 sp (rb a b) a b m p0 p1 o0 o1 sp (rb (TkA m p0 p1 o0 o1 a b pr gr is gp) (TkB m p0 p1 o0 o1 a b pr gr is gp)) (TkA m p0 p1 o0 o1 a b pr gr is gp) (TkB m p0 p1 o0 o1 a b pr gr is gp) gp id pr gr is r v (if takeB m p0 p1 o0 o1 a b pr gr is gp then id else 1023) (takeB m p0 p1 o0 o1 a b pr gr is gp) (fun W h h' => Take_c g m p0 p1 o0 o1 sp a b id pr gr is gp W h h') (fun W => rTake_c m p0 p1 o0 o1 sp a b id pr gr is gp W) w hr hr').mono ?_
    rintro e w' ⟨h, hR, hA⟩
    exact ⟨_, _, _, _, _, _, TkA m p0 p1 o0 o1 a b pr gr is gp, TkB m p0 p1 o0 o1 a b pr gr is gp, (by unfold TkA; exact u32_ite (setA_u32 _ _ _ _ ha) ha), (by unfold TkB; exact u32_ite (setB_u32 _ _ _ _ hb) hb), h, hR, hA⟩
  by_cases h2 : d = 2
  · subst h2
    refine (does2_g g m p0 p1 o0 o1 sp (rb a b) a b m p0 p1 o0 o1 sp (rb (if dropB' a b gp then dropA a b else a) (if dropB' a b gp then dropB a b else b)) (if dropB' a b gp then dropA a b else a) (if dropB' a b gp then dropB a b else b) gp id pr gr is r v 0 (dropB' a b gp) (fun W h h' => IfDrop_c g m p0 p1 o0 o1 sp a b gp W h h') (fun W => rDropI_c m p0 p1 o0 o1 sp a b gp W) w hr hr').mono ?_
    rintro e w' ⟨h, hR, hA⟩
    exact ⟨_, _, _, _, _, _, (if dropB' a b gp then dropA a b else a), (if dropB' a b gp then dropB a b else b), u32_ite (dropA_u32 _ _ ha) ha, u32_ite (dropB_u32 _ _ hb) hb, h, hR, hA⟩
  by_cases h3 : d = 3
  · subst h3
    refine (does3_g g m p0 p1 o0 o1 sp (rb a b) a b (wM r v m) (wP0 r v p0) (wP1 r v p1) (wO0 r v o0) (wO1 r v o1) (wSp r v sp) (rb a b) a b gp id pr gr is r v 0 (wOk r) (fun W h h' => Write_c g m p0 p1 o0 o1 sp a b r v W h h') (fun W => rWriteI_c m p0 p1 o0 o1 sp a b r v hv0 hv1 W) w hr hr').mono ?_
    rintro e w' ⟨h, hR, hA⟩
    exact ⟨_, _, _, _, _, _, a, b, ha, hb, h, hR, hA⟩
  refine (does0_g g m p0 p1 o0 o1 sp (rb a b) a b d gp id pr gr is r v (by simpa using h1) (by simpa using h2) (by simpa using h3) w hr hr').mono ?_
  rintro e w' ⟨h, hR, hA⟩
  exact ⟨_, _, _, _, _, _, a, b, ha, hb, h, hR, hA⟩
end Go.Proofs.Ytpjenhojldcmiaa
