/- Contracts by hand: the processor's interface, through a pointer: what is taken, dropped, written; what is read. -/
import Derived.Test.YtpjenhojldcmiaaCp2
import Derived.Deep.RegionWith
namespace Go.Proofs.Ytpjenhojldcmiaa
open Go.RowKit Go.Shelf
attribute [local go_sem] Oper.semAt_some cell_row frozen_row isRow_setCell_eq rowAt_setCell_same rowAt_setCell_other isRow_alloc_eq rowAt_alloc rowAt_new isRow_setRow_eq rowAt_setRow_same rowAt_setRow_other isRow_drew rowAt_drew size_setRow_ Lb_size Lb_at blk_ptr aggOf_agg below_alloc_r below_setCell_r below_setRow_r below_drew_r le_add_r
set_option maxRecDepth 100000 in
set_option maxHeartbeats 2000000 in
theorem Take_no1 (g : Nat) (m p0 p1 : Int) (o0 o1 sp : Bool) (a b : Int) (id pr gr : Int) (is : Bool) (gp : Int) (w : World) (hr : isRow w g) (hr' : rowAt w g = #[.int .i64 m, .int .i64 p0, .int .i64 p1, .bool o0, .bool o1, .bool sp, .int .u32 a, .int .u32 b]) (hm : mayP m p0 p1 o0 o1 a b pr gr is = false) :
    Calls Try.prog 10 #[.pointer (some ⟨g, 0, none⟩), .agg #[.int .i64 id, .int .i64 pr, .int .i64 gr, .bool is], .int .i64 gp] w fun e w' => e = .returned (.tuple #[.int .i64 1023, .bool false]) ∧ Below w.heap.size w w' := by
  have HMAY := Lib.hid (fun W : World => May_c m p0 p1 o0 o1 sp a b id pr gr is W)
  rw [hm] at HMAY
  clear hm
  have hB0 : Below w.heap.size w (w.alloc (.cells #[.int .i64 id, .int .i64 pr, .int .i64 gr, .bool is] 31)) := (Below.refl _ w).alloc (Nat.le_refl _) _
  have hz := hB0.size
  have hne : ¬ g = w.heap.size := by have := hr.lt; omega
  obtain ⟨R0, R0'⟩ : Row (w.alloc (.cells #[.int .i64 id, .int .i64 pr, .int .i64 gr, .bool is] 31)) w.heap.size #[.int .i64 id, .int .i64 pr, .int .i64 gr, .bool is] := Row.new _ _ _
  obtain ⟨R1, R1'⟩ : Row (w.alloc (.cells #[.int .i64 id, .int .i64 pr, .int .i64 gr, .bool is] 31)) g #[.int .i64 m, .int .i64 p0, .int .i64 p1, .bool o0, .bool o1, .bool sp, .int .u32 a, .int .u32 b] := ⟨isRow_alloc hr, (rowAt_alloc hr).trans hr'⟩
  go_enter Try.func10, Try.ntmps10
  go_wp2_with fail
  generalize w.alloc (.cells #[.int .i64 id, .int .i64 pr, .int .i64 gr, .bool is] 31) = W at *
  (first | go_region_with (go_at_call 13; refine (HMAY.out _).mono ?_; rintro e w1 ⟨rfl, hb⟩; obtain ⟨Q0, Q0'⟩ := Row.step (show isRow W.drew _ from R0) (show rowAt W.drew _ = _ from R0') hb) | fail)
  all_goals
    go_wp2
    go_ret2
    exact ⟨rfl, (below_drew0 hB0).trans (hb.mono hz)⟩
set_option maxRecDepth 100000 in
set_option maxHeartbeats 2000000 in
theorem Take_no2 (g : Nat) (m p0 p1 : Int) (o0 o1 sp : Bool) (a b : Int) (id pr gr : Int) (is : Bool) (gp : Int) (w : World) (hr : isRow w g) (hr' : rowAt w g = #[.int .i64 m, .int .i64 p0, .int .i64 p1, .bool o0, .bool o1, .bool sp, .int .u32 a, .int .u32 b]) (hm : mayP m p0 p1 o0 o1 a b pr gr is = true) (hn : (gr != gp) = true) :
    Calls Try.prog 10 #[.pointer (some ⟨g, 0, none⟩), .agg #[.int .i64 id, .int .i64 pr, .int .i64 gr, .bool is], .int .i64 gp] w fun e w' => e = .returned (.tuple #[.int .i64 1023, .bool false]) ∧ Below w.heap.size w w' := by
  have HMAY := Lib.hid (fun W : World => May_c m p0 p1 o0 o1 sp a b id pr gr is W)
  rw [hm] at HMAY
  clear hm
  have hB0 : Below w.heap.size w (w.alloc (.cells #[.int .i64 id, .int .i64 pr, .int .i64 gr, .bool is] 31)) := (Below.refl _ w).alloc (Nat.le_refl _) _
  have hz := hB0.size
  have hne : ¬ g = w.heap.size := by have := hr.lt; omega
  obtain ⟨R0, R0'⟩ : Row (w.alloc (.cells #[.int .i64 id, .int .i64 pr, .int .i64 gr, .bool is] 31)) w.heap.size #[.int .i64 id, .int .i64 pr, .int .i64 gr, .bool is] := Row.new _ _ _
  obtain ⟨R1, R1'⟩ : Row (w.alloc (.cells #[.int .i64 id, .int .i64 pr, .int .i64 gr, .bool is] 31)) g #[.int .i64 m, .int .i64 p0, .int .i64 p1, .bool o0, .bool o1, .bool sp, .int .u32 a, .int .u32 b] := ⟨isRow_alloc hr, (rowAt_alloc hr).trans hr'⟩
  go_enter Try.func10, Try.ntmps10
  go_wp2_with fail
  generalize w.alloc (.cells #[.int .i64 id, .int .i64 pr, .int .i64 gr, .bool is] 31) = W at *
  (first | go_region_with (go_at_call 13; refine (HMAY.out _).mono ?_; rintro e w1 ⟨rfl, hb⟩; obtain ⟨Q0, Q0'⟩ := Row.step (show isRow W.drew _ from R0) (show rowAt W.drew _ = _ from R0') hb) | fail)
  all_goals
    go_wp2
    go_ret2
    exact ⟨rfl, (below_drew0 hB0).trans (hb.mono hz)⟩
set_option maxRecDepth 100000 in
set_option maxHeartbeats 4000000 in
theorem Take_yes (g : Nat) (m p0 p1 : Int) (o0 o1 sp : Bool) (a b : Int) (id pr gr : Int) (is : Bool) (w : World) (hr : isRow w g) (hr' : rowAt w g = #[.int .i64 m, .int .i64 p0, .int .i64 p1, .bool o0, .bool o1, .bool sp, .int .u32 a, .int .u32 b]) (hm : mayP m p0 p1 o0 o1 a b pr gr is = true) (mk : Int) (hmk : maskP (gr % 2) (ptP p0 p1 gr) = mk) (x y : Int) (hx : setA .or a gr (bits .and .i64 pr mk) = x) (hy : setB .or b gr (bits .and .i64 pr mk) = y) :
    Calls Try.prog 10 #[.pointer (some ⟨g, 0, none⟩), .agg #[.int .i64 id, .int .i64 pr, .int .i64 gr, .bool is], .int .i64 gr] w fun e w' => e = .returned (.tuple #[.int .i64 id, .bool true]) ∧ Row w' g #[.int .i64 m, .int .i64 p0, .int .i64 p1, .bool o0, .bool o1, .bool sp, .int .u32 x, .int .u32 y] ∧ Aside g w w' := by
  have HMAY := Lib.hid (fun W : World => May_c m p0 p1 o0 o1 sp a b id pr gr is W)
  rw [hm] at HMAY
  have HMK := Lib.hid (fun W : World => ifmask_c m p0 p1 o0 o1 sp a b gr W)
  rw [hmk] at HMK
  have HPU := Lib.hid (fun W : World => Push_c a b gr (bits .and .i64 pr mk) W)
  rw [hx, hy] at HPU
  clear hm hmk hx hy
  have hB0 : Below w.heap.size w (w.alloc (.cells #[.int .i64 id, .int .i64 pr, .int .i64 gr, .bool is] 31)) := (Below.refl _ w).alloc (Nat.le_refl _) _
  have hz := hB0.size
  have hne : ¬ g = w.heap.size := by have := hr.lt; omega
  have hne' : ¬ w.heap.size = g := by have := hr.lt; omega
  obtain ⟨R0, R0'⟩ : Row (w.alloc (.cells #[.int .i64 id, .int .i64 pr, .int .i64 gr, .bool is] 31)) w.heap.size #[.int .i64 id, .int .i64 pr, .int .i64 gr, .bool is] := Row.new _ _ _
  obtain ⟨R1, R1'⟩ : Row (w.alloc (.cells #[.int .i64 id, .int .i64 pr, .int .i64 gr, .bool is] 31)) g #[.int .i64 m, .int .i64 p0, .int .i64 p1, .bool o0, .bool o1, .bool sp, .int .u32 a, .int .u32 b] := ⟨isRow_alloc hr, (rowAt_alloc hr).trans hr'⟩
  clear hr hr'
  go_enter Try.func10, Try.ntmps10
  go_wp2_with fail
  generalize w.alloc (.cells #[.int .i64 id, .int .i64 pr, .int .i64 gr, .bool is] 31) = W at *
  (first | go_region_held3 (fun w' => isRow w' g ∧ rowAt w' g = #[.int .i64 m, .int .i64 p0, .int .i64 p1, .bool o0, .bool o1, .bool sp, .int .u32 a, .int .u32 b] ∧ isRow w' w.heap.size ∧ rowAt w' w.heap.size = #[.int .i64 id, .int .i64 pr, .int .i64 gr, .bool is] ∧ Below w.heap.size w w') (first | exact ⟨R1, R1', R0, R0', below_drew0 hB0⟩ | (go_split_ands; exact ⟨rk1 (by assumption) hb, rk2 (by assumption) (by assumption) hb, rk1 (by assumption) hb, rk2 (by assumption) (by assumption) hb, bk (by assumption) (Below.size (by assumption)) hb⟩)) ((go_at_call 13; (with_reducible refine (HMAY.out _).mono ?_); rintro e w1 ⟨rfl, hb⟩)) | fail)
  go_split_ands
  obtain ⟨R2, R2'⟩ : Row w1 g #[.int .i64 m, .int .i64 p0, .int .i64 p1, .bool o0, .bool o1, .bool sp, .int .u32 a, .int .u32 b] := ⟨by assumption, by assumption⟩
  obtain ⟨R3, R3'⟩ : Row w1 w.heap.size #[.int .i64 id, .int .i64 pr, .int .i64 gr, .bool is] := ⟨by assumption, by assumption⟩
  have hB1 : Below w.heap.size w w1 := by assumption
  go_wp2_with fail
  (first | go_region_with (first | (go_at_call 32; refine (HMK.out _).mono ?_; rintro e w2 ⟨rfl, hb2⟩; obtain ⟨R4, R4'⟩ := Row.step (show isRow w1.drew _ from R2) (show rowAt w1.drew _ = _ from R2') hb2; obtain ⟨R5, R5'⟩ := Row.step (show isRow w1.drew _ from R3) (show rowAt w1.drew _ = _ from R3') hb2; have hB2 := bk (below_drew0 hB1) hB1.size hb2) | (go_at_call 31; refine (HPU.out _).mono ?_; rintro e w3 ⟨rfl, hb3⟩; obtain ⟨R6, R6'⟩ := Row.step R4 R4' hb3; obtain ⟨R7, R7'⟩ := Row.step R5 R5' hb3; have hB3 := bk hB2 hB2.size hb3)) | fail)
  all_goals
    go_wp2
    go_ret2
    exact ⟨rfl, ⟨by go_simp, by go_simp⟩, ((Aside.of_below hB3).setCell _).setCell _⟩
end Go.Proofs.Ytpjenhojldcmiaa
