/- Contracts by hand: a fresh interface; how deep. -/
import Derived.Test.YtpjenhojldcmiaaCp14
import Derived.Deep.RegionHeld3
namespace Go.Proofs.Ytpjenhojldcmiaa
open Go.RowKit Go.Shelf
attribute [local go_sem] Oper.semAt_some cell_row frozen_row isRow_setCell_eq rowAt_setCell_same rowAt_setCell_other isRow_alloc_eq rowAt_alloc rowAt_new isRow_setRow_eq rowAt_setRow_same rowAt_setRow_other isRow_drew rowAt_drew size_setRow_ Lb_size Lb_at blk_ptr aggOf_agg below_alloc_r below_setCell_r below_setRow_r below_drew_r le_add_r RC_size RC_get0 RC_at0 RC_set0 RC_get1 RC_at1 RC_set1 RC_get2 RC_at2 RC_set2 RC_get3 RC_at3 RC_set3 RC_get4 RC_at4 RC_set4 RC_get5 RC_at5 RC_set5 zeroF RC_ext RC_spl RC_one offv_ptr one_lad zero_lad allOne_nil allOne_cons Value.oneCell' zero_rc
attribute [local go_sem ↓] loadF storeF loadA storeA loadM storeM
attribute [local go_sem] eq2i eq2b
set_option maxRecDepth 100000 in
set_option maxHeartbeats 1000000 in
theorem New_c (w : World) : Calls Try.prog 30 #[] w fun e w' => e = .returned (.agg #[.int .i64 0, .int .i64 0, .int .i64 0, .bool false, .bool false, .bool false, .int .u32 0, .int .u32 0]) ∧ Below w.heap.size w w' := by
  have hB : Below w.heap.size w (w.alloc (.cells #[.int .i64 0, .int .i64 0, .int .i64 0, .bool false, .bool false, .bool false, .int .u32 0, .int .u32 0] 29)) := (Below.refl _ w).alloc (Nat.le_refl _) _
  go_enter Try.func30, Try.ntmps30
  go_wp2
  exact bodyPost_ret (results_tmps rfl _ _ w.heap.size #[.int .i64 0, .int .i64 0, .int .i64 0, .bool false, .bool false, .bool false, .int .u32 0, .int .u32 0] rfl ⟨by go_simp, by go_simp⟩ Try.underlying29 rfl (show (Try.prog.info? 29).map (·.size) = some 8 by kernel_rfl) rfl) rfl ⟨rfl, by go_simp⟩
set_option maxRecDepth 100000 in
set_option maxHeartbeats 1000000 in
theorem LLen_c (a b : Int) (ha : U32 a) (hb : U32 b) (w : World) : Calls Try.prog 29 #[.agg #[.int .u32 a, .int .u32 b]] w fun e w' => e = .returned (.int .i64 ((pop a 32 + pop b 32 : Nat) : Int)) ∧ Below w.heap.size w w' := by
  have F1 := Lib.hid (fun W : World => OnesCount32_c a ha.1 (by have := ha.2; omega) W)
  have F2 := Lib.hid (fun W : World => OnesCount32_c b hb.1 (by have := hb.2; omega) W)
  have l1 := pop_le a 32
  have l2 := pop_le b 32
  generalize pop a 32 = x at *
  generalize pop b 32 = y at *
  clear ha hb
  have hw : IntKind.i64.wrap ((x : Int) + (y : Int)) = ((x + y : Nat) : Int) := by rw [IntWalk.i64_in _ (by omega)]; rfl
  clear l1 l2
  have hB0 : Below w.heap.size w (w.alloc (.cells #[.int .u32 a, .int .u32 b] 27)) := (Below.refl _ w).alloc (Nat.le_refl _) _
  obtain ⟨R0, R0'⟩ : Row (w.alloc (.cells #[.int .u32 a, .int .u32 b] 27)) w.heap.size #[.int .u32 a, .int .u32 b] := Row.new _ _ _
  go_enter Try.func29, Try.ntmps29
  go_wp2_with fail
  generalize w.alloc (.cells #[.int .u32 a, .int .u32 b] 27) = W0 at *
  (first | go_region_held3 (fun w' => isRow w' w.heap.size ∧ rowAt w' w.heap.size = #[.int .u32 a, .int .u32 b] ∧ Below w.heap.size w w')
    (first | exact ⟨R0, R0', below_drew0 hB0⟩ | (go_split_ands; exact ⟨rk1 (by assumption) hb, rk2 (by assumption) (by assumption) hb, bk (by assumption) (Below.size (by assumption)) hb⟩))
    ((go_at_call 48; ((first | (with_reducible refine (F1.out _).mono ?_) | (with_reducible refine (F2.out _).mono ?_)); rintro e w4 ⟨rfl, hb⟩))) | fail)
  go_split_ands
  go_wp2
  go_ret
  exact ⟨(show Ending.returned (.int .i64 ((x : Int) + (y : Int))) = _ from congrArg (fun z => Ending.returned (.int .i64 z)) (Int.natCast_add x y).symm), by assumption⟩
set_option maxRecDepth 100000 in
set_option maxHeartbeats 1000000 in
theorem Depth_c (m p0 p1 : Int) (o0 o1 sp : Bool) (a b : Int) (ha : U32 a) (hb : U32 b) (w : World) : Calls Try.prog 20 #[.agg #[.int .i64 m, .int .i64 p0, .int .i64 p1, .bool o0, .bool o1, .bool sp, .int .u32 a, .int .u32 b]] w fun e w' => e = .returned (.int .i64 ((pop a 32 + pop b 32 : Nat) : Int)) ∧ Below w.heap.size w w' := by
  have F1 := Lib.hid (fun W : World => LLen_c a b ha hb W)
  generalize ((pop a 32 + pop b 32 : Nat) : Int) = n at *
  clear ha hb
  have hB0 : Below w.heap.size w (w.alloc (.cells #[.int .i64 m, .int .i64 p0, .int .i64 p1, .bool o0, .bool o1, .bool sp, .int .u32 a, .int .u32 b] 29)) := (Below.refl _ w).alloc (Nat.le_refl _) _
  obtain ⟨R0, R0'⟩ : Row (w.alloc (.cells #[.int .i64 m, .int .i64 p0, .int .i64 p1, .bool o0, .bool o1, .bool sp, .int .u32 a, .int .u32 b] 29)) w.heap.size #[.int .i64 m, .int .i64 p0, .int .i64 p1, .bool o0, .bool o1, .bool sp, .int .u32 a, .int .u32 b] := Row.new _ _ _
  go_enter Try.func20, Try.ntmps20
  go_wp2_with (go_at_call 29; refine (F1.out _).mono ?_; rintro e w1 ⟨rfl, hb1⟩)
  go_ret
  exact ⟨rfl, bk hB0 hB0.size hb1⟩
end Go.Proofs.Ytpjenhojldcmiaa
