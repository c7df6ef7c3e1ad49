/- Contract by hand: the law's own interface wakes as it should. -/
import Derived.Test.YtpjenhojldcmiaaCp15
import Derived.Deep.RegionHeld3
namespace Go.Proofs.Ytpjenhojldcmiaa
open Go.RowKit Go.Shelf
attribute [local go_sem] Oper.semAt_some cell_row frozen_row isRow_setCell_eq rowAt_setCell_same rowAt_setCell_other isRow_alloc_eq rowAt_alloc rowAt_new isRow_setRow_eq rowAt_setRow_same rowAt_setRow_other isRow_drew rowAt_drew size_setRow_ Lb_size Lb_at blk_ptr aggOf_agg below_alloc_r below_setCell_r below_setRow_r below_drew_r le_add_r RC_size RC_get0 RC_at0 RC_set0 RC_get1 RC_at1 RC_set1 RC_get2 RC_at2 RC_set2 RC_get3 RC_at3 RC_set3 RC_get4 RC_at4 RC_set4 RC_get5 RC_at5 RC_set5 zeroF RC_ext RC_spl RC_one offv_ptr one_lad zero_lad allOne_nil allOne_cons Value.oneCell' zero_rc
attribute [local go_sem ↓] loadF storeF loadA storeA loadM storeM
set_option maxRecDepth 100000 in
set_option maxHeartbeats 1000000 in
theorem awake_c (w : World) : Calls Try.prog 9 #[] w fun e w' => e = .returned (.bool true) ∧ Below w.heap.size w w' := by
  have HTK := Lib.hid (show ∀ (g : Nat) (W : World), isRow W g → rowAt W g = #[.int .i64 248, .int .i64 0, .int .i64 0, .bool true, .bool true, .bool false, .int .u32 0, .int .u32 0] → Calls Try.prog 10 #[.pointer (some ⟨g, 0, none⟩), .agg #[.int .i64 40, .int .i64 160, .int .i64 1, .bool true], .int .i64 1] W fun e w' => e = .returned (.tuple #[.int .i64 40, .bool true]) ∧ Row w' g #[.int .i64 248, .int .i64 0, .int .i64 0, .bool true, .bool true, .bool false, .int .u32 0, .int .u32 1048576] ∧ Aside g W w' from fun g W h h' => by
    have := Take_c g 248 0 0 true true false 0 0 40 160 1 true 1 W h h'
    rw [show takeB 248 0 0 true true 0 0 160 1 true 1 = true by decide +kernel, show setA .or 0 1 (levP 0 0 160 1) = 0 by decide +kernel, show setB .or 0 1 (levP 0 0 160 1) = 1048576 by decide +kernel] at this
    exact this)
  have HM1 := Lib.hid (show ∀ W : World, Calls Try.prog 13 #[.agg #[.int .i64 248, .int .i64 0, .int .i64 0, .bool true, .bool true, .bool false, .int .u32 0, .int .u32 1048576], .agg #[.int .i64 0, .int .i64 168, .int .i64 1, .bool true]] W fun e w' => e = .returned (.bool false) ∧ Below W.heap.size W w' from fun W => by
    have := May_c 248 0 0 true true false 0 1048576 0 168 1 true W
    rw [show mayP 248 0 0 true true 0 1048576 168 1 true = false by decide +kernel] at this
    exact this)
  have HM2 := Lib.hid (show ∀ W : World, Calls Try.prog 13 #[.agg #[.int .i64 248, .int .i64 0, .int .i64 0, .bool true, .bool true, .bool false, .int .u32 0, .int .u32 1048576], .agg #[.int .i64 0, .int .i64 152, .int .i64 1, .bool true]] W fun e w' => e = .returned (.bool true) ∧ Below W.heap.size W w' from fun W => by
    have := May_c 248 0 0 true true false 0 1048576 0 152 1 true W
    rw [show mayP 248 0 0 true true 0 1048576 152 1 true = true by decide +kernel] at this
    exact this)
  have HD0 := Lib.hid (show ∀ (g : Nat) (W : World), isRow W g → rowAt W g = #[.int .i64 248, .int .i64 0, .int .i64 0, .bool true, .bool true, .bool false, .int .u32 0, .int .u32 1048576] → Calls Try.prog 14 #[.pointer (some ⟨g, 0, none⟩), .int .i64 0] W fun e w' => e = .returned (.bool false) ∧ Row w' g #[.int .i64 248, .int .i64 0, .int .i64 0, .bool true, .bool true, .bool false, .int .u32 0, .int .u32 1048576] ∧ Aside g W w' from fun g W h h' => by
    have := IfDrop_c g 248 0 0 true true false 0 1048576 0 W h h'
    rw [show dropB' 0 1048576 0 = false by decide +kernel] at this
    exact this)
  have HD1 := Lib.hid (show ∀ (g : Nat) (W : World), isRow W g → rowAt W g = #[.int .i64 248, .int .i64 0, .int .i64 0, .bool true, .bool true, .bool false, .int .u32 0, .int .u32 1048576] → Calls Try.prog 14 #[.pointer (some ⟨g, 0, none⟩), .int .i64 1] W fun e w' => e = .returned (.bool true) ∧ Row w' g #[.int .i64 248, .int .i64 0, .int .i64 0, .bool true, .bool true, .bool false, .int .u32 0, .int .u32 0] ∧ Aside g W w' from fun g W h h' => by
    have := IfDrop_c g 248 0 0 true true false 0 1048576 1 W h h'
    rw [show dropB' 0 1048576 1 = true by decide +kernel, show dropA 0 1048576 = 0 by decide +kernel, show dropB 0 1048576 = 0 by decide +kernel] at this
    exact this)
  have HRU := Lib.hid (show ∀ W : World, Calls Try.prog 12 #[.agg #[.int .i64 248, .int .i64 0, .int .i64 0, .bool true, .bool true, .bool false, .int .u32 0, .int .u32 0]] W fun e w' => e = .returned (.tuple #[.int .i64 255, .int .i64 0]) ∧ Below W.heap.size W w' from fun W => by
    have := ifrun_c 248 0 0 true true false 0 0 W
    rw [show top 0 0 = (255, 0) by decide +kernel] at this
    exact this)
  have HWR := Lib.hid (show ∀ (g : Nat) (W : World), isRow W g → rowAt W g = #[.int .i64 248, .int .i64 0, .int .i64 0, .bool true, .bool true, .bool false, .int .u32 0, .int .u32 0] → Calls Try.prog 15 #[.pointer (some ⟨g, 0, none⟩), .int .i64 8, .int .u64 0] W fun e w' => e = .returned (.bool true) ∧ Row w' g #[.int .i64 248, .int .i64 0, .int .i64 1, .bool true, .bool true, .bool false, .int .u32 0, .int .u32 0] ∧ Aside g W w' from fun g W h h' => Write_c g 248 0 0 true true false 0 0 8 0 W h h')
  have HRD := Lib.hid (show ∀ W : World, Calls Try.prog 16 #[.agg #[.int .i64 248, .int .i64 0, .int .i64 1, .bool true, .bool true, .bool false, .int .u32 0, .int .u32 0], .int .i64 8] W fun e w' => e = .returned (.tuple #[.int .u64 1, .bool true]) ∧ Below W.heap.size W w' from fun W => by
    have := Read_c 248 0 1 true true false 0 0 8 W
    rw [show rdN 8 248 0 1 true true false 0 0 = 1 by decide +kernel, show rdOk 8 = true by decide +kernel] at this
    exact this)
  go_enter Try.func9, Try.ntmps9
  go_wp2_with fail
  refine (New_c _).mono ?_
  rintro e v1 ⟨rfl, hb1⟩
  have hz1 : w.heap.size ≤ v1.heap.size := hb1.size
  go_wp2_with fail
  refine (HTK.out v1.heap.size _ (by go_simp) (by go_simp)).mono ?_
  rintro e v2 ⟨rfl, ⟨R2, R2'⟩, hA2⟩
  have hB2 : Below w.heap.size w v2 := hA2.below (by go_simp) hz1 (by go_simp)
  clear hA2 hb1
  generalize v1.heap.size = g at *
  go_wp2_with fail
  (first | go_region_held3 (fun w' => isRow w' g ∧ rowAt w' g = #[.int .i64 248, .int .i64 0, .int .i64 0, .bool true, .bool true, .bool false, .int .u32 0, .int .u32 1048576] ∧ Below w.heap.size w w')
    (first | exact ⟨R2, R2', below_drew0 hB2⟩ | (go_split_ands; exact ⟨rk1 (by assumption) hb, rk2 (by assumption) (by assumption) hb, bk (by assumption) (Below.size (by assumption)) hb⟩))
    ((go_at_call 13; ((first | (with_reducible refine (HM1.out _).mono ?_) | (with_reducible refine (HM2.out _).mono ?_)); rintro e w4 ⟨rfl, hb⟩))) | fail)
  go_split_ands
  go_wp2_with fail
  refine (HD0.out g _ (by assumption) (by assumption)).mono ?_
  rintro e x1 ⟨rfl, ⟨S1, S1'⟩, hA1⟩
  have hC1 : Below w.heap.size w x1 := hA1.below (by assumption) hz1 (Below.size (by assumption))
  clear hA1
  go_wp2_with fail
  refine (HD1.out g _ S1 S1').mono ?_
  rintro e x2 ⟨rfl, ⟨S2, S2'⟩, hA2⟩
  have hC2 : Below w.heap.size w x2 := hA2.below hC1 hz1 hC1.size
  clear hA2
  go_wp2_with fail
  refine (HRU.out _).mono ?_
  rintro e x3 ⟨rfl, hb3⟩
  obtain ⟨S3, S3'⟩ := Row.step S2 S2' hb3
  have hC3 := bk hC2 hC2.size hb3
  go_wp2_with fail
  refine (HWR.out g _ S3 S3').mono ?_
  rintro e x4 ⟨rfl, ⟨S4, S4'⟩, hA4⟩
  have hC4 : Below w.heap.size w x4 := hA4.below hC3 hz1 hC3.size
  clear hA4
  go_wp2_with fail
  refine (HRD.out _).mono ?_
  rintro e x5 ⟨rfl, hb5⟩
  have hC5 := bk hC4 hC4.size hb5
  go_wp2
  go_ret
  exact ⟨rfl, hC5⟩
end Go.Proofs.Ytpjenhojldcmiaa
