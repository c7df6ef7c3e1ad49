/- Contracts by hand: is an interface what the document's is? -/
import Derived.Test.YtpjenhojldcmiaaCp10
import Derived.Test.YtpjenhojldcmiaaRef8b
import Derived.Deep.RegionHeld3
namespace Go.Proofs.Ytpjenhojldcmiaa
open Go.RowKit Go.Shelf
attribute [local go_sem] Oper.semAt_some cell_row frozen_row isRow_setCell_eq rowAt_setCell_same rowAt_setCell_other isRow_alloc_eq rowAt_alloc rowAt_new isRow_setRow_eq rowAt_setRow_same rowAt_setRow_other isRow_drew rowAt_drew size_setRow_ Lb_size Lb_at blk_ptr aggOf_agg below_alloc_r below_setCell_r below_setRow_r below_drew_r le_add_r RC_size RC_get0 RC_at0 RC_set0 RC_get1 RC_at1 RC_set1 RC_get2 RC_at2 RC_set2 RC_get3 RC_at3 RC_set3 RC_get4 RC_at4 RC_set4 RC_get5 RC_at5 RC_set5 zeroF RC_ext RC_spl RC_one offv_ptr one_lad zero_lad allOne_nil allOne_cons Value.oneCell' zero_rc
attribute [local go_sem ↓] loadF storeF loadA storeA loadM storeM
attribute [local go_sem] eq2i eq2b
set_option maxRecDepth 100000 in
set_option maxHeartbeats 1000000 in
theorem Alike14_c (m p0 p1 : Int) (o0 o1 sp : Bool) (a b : Int) (ha : 0 ≤ a) (ha' : a ≤ 4294967295) (hb : 0 ≤ b) (hb' : b ≤ 4294967295) (w : World) : Calls Try.prog 24 #[.agg #[.int .i64 m, .int .i64 p0, .int .i64 p1, .bool o0, .bool o1, .bool sp, .int .u32 a, .int .u32 b], .agg (RC m p0 p1 o0 o1 sp (rb a b))] w fun e w' => e = .returned (.bool true) ∧ Below w.heap.size w w' := by
  have f5 := fun W : World => rBits_c a b ha ha' hb hb' 0 (.inl rfl) W
  have f6 := fun W : World => rBits_c a b ha ha' hb hb' 1 (.inr rfl) W
  generalize hF : rb a b = f at *
  clear hF
  have F5 := Lib.hid f5
  have F6 := Lib.hid f6
  clear f5 f6 ha ha' hb hb'
  have hB0 : Below w.heap.size w ((w.alloc (.cells #[.int .i64 m, .int .i64 p0, .int .i64 p1, .bool o0, .bool o1, .bool sp, .int .u32 a, .int .u32 b] 29)).alloc (.cells (RC m p0 p1 o0 o1 sp f) 61)) := ((Below.refl _ w).alloc (Nat.le_refl _) _).alloc (by simp) _
  obtain ⟨R0, R0'⟩ : Row ((w.alloc (.cells #[.int .i64 m, .int .i64 p0, .int .i64 p1, .bool o0, .bool o1, .bool sp, .int .u32 a, .int .u32 b] 29)).alloc (.cells (RC m p0 p1 o0 o1 sp f) 61)) w.heap.size #[.int .i64 m, .int .i64 p0, .int .i64 p1, .bool o0, .bool o1, .bool sp, .int .u32 a, .int .u32 b] := Row.of ((BoxN.new w 29 #[.int .i64 m, .int .i64 p0, .int .i64 p1, .bool o0, .bool o1, .bool sp, .int .u32 a, .int .u32 b]).alloc _)
  obtain ⟨R1, R1'⟩ : Row ((w.alloc (.cells #[.int .i64 m, .int .i64 p0, .int .i64 p1, .bool o0, .bool o1, .bool sp, .int .u32 a, .int .u32 b] 29)).alloc (.cells (RC m p0 p1 o0 o1 sp f) 61)) (w.heap.size + 1) (RC m p0 p1 o0 o1 sp f) := (by (have this := BoxN.new (w.alloc (.cells #[.int .i64 m, .int .i64 p0, .int .i64 p1, .bool o0, .bool o1, .bool sp, .int .u32 a, .int .u32 b] 29)) 61 (RC m p0 p1 o0 o1 sp f); rw [World.size_alloc] at this; exact Row.of this))
  go_enter Try.func24, Try.ntmps24
  go_wp2_with fail
  generalize (w.alloc (.cells #[.int .i64 m, .int .i64 p0, .int .i64 p1, .bool o0, .bool o1, .bool sp, .int .u32 a, .int .u32 b] 29)).alloc (.cells (RC m p0 p1 o0 o1 sp f) 61) = W0 at *
  (first | go_region_held3 (fun w' => isRow w' w.heap.size ∧ rowAt w' w.heap.size = #[.int .i64 m, .int .i64 p0, .int .i64 p1, .bool o0, .bool o1, .bool sp, .int .u32 a, .int .u32 b] ∧ isRow w' (w.heap.size + 1) ∧ rowAt w' (w.heap.size + 1) = (RC m p0 p1 o0 o1 sp f) ∧ Below w.heap.size w w')
    (first | exact ⟨R0, R0', R1, R1', below_drew0 hB0⟩ | (go_split_ands; exact ⟨rk1 (by assumption) hb, rk2 (by assumption) (by assumption) hb, rk1 (by assumption) hb, rk2 (by assumption) (by assumption) hb, bk (by assumption) (Below.size (by assumption)) hb⟩))
    ((go_at_call 46; ((first | (with_reducible refine (F5.out _).mono ?_) | (with_reducible refine (F6.out _).mono ?_)); rintro e w4 ⟨rfl, hb⟩))) | fail)
  go_split_ands
  go_wp2
  go_ret
  exact ⟨rfl, by assumption⟩
end Go.Proofs.Ytpjenhojldcmiaa
