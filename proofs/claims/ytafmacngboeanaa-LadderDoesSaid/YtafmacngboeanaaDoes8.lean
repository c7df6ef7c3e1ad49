/- The walk by hand of the law LadderDoes of layer 8. -/
import Derived.Test.YtafmacngboeanaaAl8
namespace Go.Proofs.Ytafmacngboeanaa
open Go.RowKit Go.Shelf Go.Proofs.YtafmacngboeanaaW.PrintWords Go.Proofs.Ytafmacngboeanaa.IAll Go.Proofs.Ytafmacngboeanaa.Pure
attribute [local go_sem] Oper.semAt_some cell_row frozen_row isRow_setCell_eq rowAt_setCell_same rowAt_setCell_other isRow_alloc_eq rowAt_alloc rowAt_new isRow_setRow_eq rowAt_setRow_same rowAt_setRow_other isRow_drew rowAt_drew size_setRow_ Lb_size Lb_at blk_ptr aggOf_agg below_alloc_r below_setCell_r below_setRow_r below_drew_r le_add_r
attribute [local go_sem ↓] loadL loadP
theorem one_lad (f : Nat → Bool) : AllOne (Lb f) := Lb_one f
attribute [local go_sem] one_lad allOne_nil allOne_cons Value.oneCell' zero_lad
theorem storeL {w : World} {ρ : Operand → Value} {x y : Operand} {dst : Option Tmp} {t0 : TypeId} {pos : String} {af : Array Edge} {gd : Option (Nat × Bool)}
    (hx : ρ x = .pointer (some ⟨blk (ρ x), 0, none⟩)) (hy : ρ y = .agg (aggOf (ρ y))) (h : isRow w (blk (ρ x))) (hs : (rowAt w (blk (ρ x))).size = 64) (hc : (aggOf (ρ y)).size = 64) (h1 : AllOne (aggOf (ρ y))) :
    (execOp ρ { dst := dst, op := .store 43 x y, type := t0, pos := pos, after := af, guard := gd }).run Try.prog w = .ok .skip (w.setRow (blk (ρ x)) (aggOf (ρ y))) := run_store_op infoL hx hy h hs hc h1
theorem storeP {w : World} {ρ : Operand → Value} {x y : Operand} {dst : Option Tmp} {t0 : TypeId} {pos : String} {af : Array Edge} {gd : Option (Nat × Bool)}
    (hx : ρ x = .pointer (some ⟨blk (ρ x), 0, none⟩)) (hy : ρ y = .agg (aggOf (ρ y))) (h : isRow w (blk (ρ x))) (hs : (rowAt w (blk (ρ x))).size = 2) (hc : (aggOf (ρ y)).size = 2) (h1 : AllOne (aggOf (ρ y))) :
    (execOp ρ { dst := dst, op := .store 26 x y, type := t0, pos := pos, after := af, guard := gd }).run Try.prog w = .ok .skip (w.setRow (blk (ρ x)) (aggOf (ρ y))) := run_store_op info26 hx hy h hs hc h1
attribute [local go_sem ↓] storeL storeP
set_option maxRecDepth 100000 in
set_option maxHeartbeats 2000000 in
theorem rHas_c (f : Nat → Bool) (g p : Int) (w : World) : Calls Try.prog 21 #[.agg (Lb f), .int .i64 g, .int .i64 p] w fun e w' => e = .returned (.bool (f (spot g p))) ∧ Below w.heap.size w w' := by
  have hs := spot_lt g p
  have hS := spot_c g p
  have hB0 : Below w.heap.size w (w.alloc (.cells (Lb f) 43)) := ((Below.refl _ w).alloc (Nat.le_refl _) _)
  generalize spot g p = j at *
  have HS := Lib.hid hS
  clear hS
  go_enter Try.func21, Try.ntmps21
  go_wp2_with (go_at_call 30; refine (HS.out _).mono ?_; rintro e w' ⟨rfl, rfl⟩)
  go_ret
  exact ⟨rfl, hB0⟩
theorem of3_c (a b : Int) (W : World) : Calls Try.prog 10 #[.slice (some ⟨W.heap.size, 0, none⟩) 3 3] (W.alloc (.cells #[.int .u32 a, .int .u32 b, .int .u32 77] 22)) fun e w' => e = .returned (.agg #[.int .u32 a, .int .u32 b]) ∧ Below W.heap.size W w' :=
  (Of_c (some ⟨W.heap.size, 0, none⟩) 3 [a, b, 77] _ (fun _ => ⟨_, rfl, fun j hj => by
    have hj' : j < 3 := hj
    obtain rfl | rfl | rfl : j = 0 ∨ j = 1 ∨ j = 2 := by omega
    all_goals simp [Addr.add]⟩)).mono fun e w' ⟨h1, h2⟩ => ⟨h1, ((Below.refl _ W).alloc (Nat.le_refl _) _).trans (h2.mono (by simp))⟩
theorem of1_c (a : Int) (W : World) : Calls Try.prog 10 #[.slice (some ⟨W.heap.size, 0, none⟩) 1 1] (W.alloc (.cells #[.int .u32 a] 22)) fun e w' => e = .returned (.agg #[.int .u32 a, .int .u32 0]) ∧ Below W.heap.size W w' :=
  (Of_c (some ⟨W.heap.size, 0, none⟩) 1 [a] _ (fun _ => ⟨_, rfl, fun j hj => by
    have hj' : j < 1 := hj
    obtain rfl : j = 0 := by omega
    simp [Addr.add]⟩)).mono fun e w' ⟨h1, h2⟩ => ⟨h1, ((Below.refl _ W).alloc (Nat.le_refl _) _).trans (h2.mono (by simp))⟩
set_option maxRecDepth 100000 in
set_option maxHeartbeats 4000000 in
theorem does_c (a b : Int) (ha : W32 a) (hb : W32 b) (A : Option Addr) (c : Nat) (l : List S39) (w : World) (hC : Kd.C k39 w A l.length l) :
    Calls Try.prog 6 #[.int .u32 a, .int .u32 b, .slice A l.length c] w fun e w' => e = .returned (.bool true) ∧ Below w.heap.size w w' := by
  obtain ⟨ha0, ha1⟩ := ha
  obtain ⟨hb0, hb1⟩ := hb
  have HC := Lib.hid hC
  have hmax := Kd.C_max hC
  clear hC
  have HAW := Lib.hid (fun W : World => crierlaw08_awake.calls 10 true W awake10)
  go_enter Try.func6, Try.ntmps6
  go_wp2_with (go_at_call 9; refine (HAW.out _).mono ?_; rintro e v0 ⟨rfl, hB_0⟩)
  have hz_0 : w.heap.size ≤ v0.heap.size := hB_0.size
  refine (of3_c a b _).mono ?_
  rintro e v1 ⟨rfl, hb1⟩
  have hB_1 : Below w.heap.size w v1 := bk (by go_simp) (by go_simp) hb1
  clear hB_0
  clear hb1
  have hz_1 : w.heap.size ≤ v1.heap.size := hB_1.size
  have HAL := Lib.hid (Alike_c a b ha0 ha1 hb0 hb1)
  have HAL0 := Lib.hid (Alike_c a 0 ha0 ha1 (by omega) (by omega))
  go_wp2_with fail
  refine (rOf_c a b ha0 ha1 hb0 hb1 _).mono ?_
  rintro e v2 ⟨rfl, hb2⟩
  obtain ⟨R8_2, R8_2'⟩ : Row v2 v1.heap.size #[.int .u32 a, .int .u32 b] := Row.step (by go_simp) (by go_simp) hb2
  have hB_2 : Below w.heap.size w v2 := bk (by go_simp) (by go_simp) hb2
  clear hB_1
  clear hb2
  have hz_2 : w.heap.size ≤ v2.heap.size := hB_2.size
  generalize v1.heap.size = g8 at *
  have h83 : ¬ g8 = v2.heap.size := by have := R8_2.lt; omega
  have h38 : ¬ v2.heap.size = g8 := by have := R8_2.lt; omega
  go_wp2_with fail
  refine (HAL.out _).mono ?_
  rintro e v3 ⟨rfl, hb3⟩
  obtain ⟨R8_3, R8_3'⟩ : Row v3 g8 #[.int .u32 a, .int .u32 b] := Row.step (by go_simp) (by go_simp) hb3
  obtain ⟨R9_3, R9_3'⟩ : Row v3 v2.heap.size (Lb (rb a b)) := Row.step (by go_simp) (by go_simp) hb3
  have hB_3 : Below w.heap.size w v3 := bk (by go_simp) (by go_simp) hb3
  clear R8_2 R8_2'
  clear hB_2
  clear hb3
  have hz_3 : w.heap.size ≤ v3.heap.size := hB_3.size
  generalize v2.heap.size = g9 at *
  go_wp2_with fail
  refine (of1_c a _).mono ?_
  rintro e v4 ⟨rfl, hb4⟩
  obtain ⟨R8_4, R8_4'⟩ : Row v4 g8 #[.int .u32 a, .int .u32 b] := Row.step (by go_simp) (by go_simp) hb4
  obtain ⟨R9_4, R9_4'⟩ : Row v4 g9 (Lb (rb a b)) := Row.step (by go_simp) (by go_simp) hb4
  have hB_4 : Below w.heap.size w v4 := bk (by go_simp) (by go_simp) hb4
  clear R8_3 R8_3' R9_3 R9_3'
  clear hB_3
  clear hb4
  have hz_4 : w.heap.size ≤ v4.heap.size := hB_4.size
  go_wp2_with fail
  refine (rOf_c a 0 ha0 ha1 (by omega) (by omega) _).mono ?_
  rintro e v5 ⟨rfl, hb5⟩
  obtain ⟨R8_5, R8_5'⟩ : Row v5 g8 #[.int .u32 a, .int .u32 b] := Row.step (by go_simp) (by go_simp) hb5
  obtain ⟨R9_5, R9_5'⟩ : Row v5 g9 (Lb (rb a b)) := Row.step (by go_simp) (by go_simp) hb5
  have hB_5 : Below w.heap.size w v5 := bk (by go_simp) (by go_simp) hb5
  clear R8_4 R8_4' R9_4 R9_4'
  clear hB_4
  clear hb5
  have hz_5 : w.heap.size ≤ v5.heap.size := hB_5.size
  go_wp2_with fail
  refine (HAL0.out _).mono ?_
  rintro e v6 ⟨rfl, hb6⟩
  obtain ⟨R8_6, R8_6'⟩ : Row v6 g8 #[.int .u32 a, .int .u32 b] := Row.step (by go_simp) (by go_simp) hb6
  obtain ⟨R9_6, R9_6'⟩ : Row v6 g9 (Lb (rb a b)) := Row.step (by go_simp) (by go_simp) hb6
  have hB_6 : Below w.heap.size w v6 := bk (by go_simp) (by go_simp) hb6
  clear R8_5 R8_5' R9_5 R9_5'
  clear hB_5
  clear hb6
  have hz_6 : w.heap.size ≤ v6.heap.size := hB_6.size
  go_wp2_with fail
  go_loopw [10] (fun i wr => ∃ k : Nat, k ≤ l.length ∧ i = .int .i64 k ∧ ∃ x y : Int, 0 ≤ x ∧ x ≤ 4294967295 ∧ 0 ≤ y ∧ y ≤ 4294967295 ∧ Row wr g8 #[.int .u32 x, .int .u32 y] ∧ Row wr g9 (Lb (rb x y)) ∧ Below w.heap.size w wr) (fun i _ => l.length - (intOf i).toNat)
  case atStart => exact ⟨0, by omega, rfl, a, b, ha0, ha1, hb0, hb1, ⟨R8_6, R8_6'⟩, ⟨R9_6, R9_6'⟩, hB_6⟩
  case round =>
    clear R8_6 R8_6' R9_6 R9_6' hB_6 ha0 ha1 hb0 hb1 HAL HAL0
    obtain ⟨k, hk, rfl, x, y, hx0, hx1, hy0, hy1, ⟨R8, R8'⟩, ⟨R9, R9'⟩, hB⟩ := hrel
    by_cases hlt : k < l.length
    · obtain ⟨ad, rfl, c0, c1, c2⟩ := at_T39 (Kd.C_below HC.out hB) (k : Int) (by omega) (by omega)
      simp only [Int.toNat_natCast] at c0 c1 c2
      generalize (rd_T39 l k).f0 = d at *
      generalize (rd_T39 l k).f1 = g at *
      generalize (rd_T39 l k).f2 = p at *
      have hz : w.heap.size ≤ wr.heap.size := hB.size
      have n8 : ¬ g8 = wr.heap.size := by have := R8.lt; omega
      have n8' : ¬ wr.heap.size = g8 := by have := R8.lt; omega
      have n9 : ¬ g9 = wr.heap.size := by have := R9.lt; omega
      have n9' : ¬ wr.heap.size = g9 := by have := R9.lt; omega
      by_cases h1 : d = 1
      · subst h1
        go_wp2_with fail
        refine (Push_c x y g p _).mono ?_
        rintro e v7 ⟨rfl, hb7⟩
        obtain ⟨R8_7, R8_7'⟩ : Row v7 g8 #[.int .u32 x, .int .u32 y] := Row.step (by go_simp) (by go_simp) hb7
        obtain ⟨R9_7, R9_7'⟩ : Row v7 g9 (Lb (rb x y)) := Row.step (by go_simp) (by go_simp) hb7
        obtain ⟨R11_7, R11_7'⟩ : Row v7 wr.heap.size #[.int .i64 1, .int .i64 g, .int .i64 p] := Row.step (by go_simp) (by go_simp) hb7
        have hB_7 : Below w.heap.size w v7 := bk (by go_simp) (by go_simp) hb7
        clear R8 R8' R9 R9'
        clear hB
        clear hb7
        have hz_7 : w.heap.size ≤ v7.heap.size := hB_7.size
        go_wp2_with fail
        refine (rSet_c (rb x y) g p true _).mono ?_
        rintro e v8 ⟨rfl, hb8⟩
        obtain ⟨R8_8, R8_8'⟩ : Row v8 g8 #[.int .u32 (setA .or x g p), .int .u32 (setB .or y g p)] := Row.step (by go_simp) (by go_simp) hb8
        obtain ⟨R9_8, R9_8'⟩ : Row v8 g9 (Lb (rb x y)) := Row.step (by go_simp) (by go_simp) hb8
        obtain ⟨R11_8, R11_8'⟩ : Row v8 wr.heap.size #[.int .i64 1, .int .i64 g, .int .i64 p] := Row.step (by go_simp) (by go_simp) hb8
        have hB_8 : Below w.heap.size w v8 := bk (by go_simp) (by go_simp) hb8
        clear R8_7 R8_7' R9_7 R9_7' R11_7 R11_7'
        clear hB_7
        clear hb8
        have hz_8 : w.heap.size ≤ v8.heap.size := hB_8.size
        have hE : Lb (fun j => if j = spot g p then true else rb x y j) = Lb (rb (setA .or x g p) (setB .or y g p)) := Lb_ext fun i hi => by rw [push_bits x y g p i hi]; unfold spot; by_cases e : i = 2 * pl p + (g % 2).toNat <;> simp [e]
        obtain ⟨hX, hY⟩ := set_w32 .or x y g p ⟨hx0, hx1⟩ ⟨hy0, hy1⟩
        rw [hE]
        clear hE
        generalize setA .or x g p = x2 at *
        generalize setB .or y g p = y2 at *
        go_wp2_with fail
        have hr1 : isRow (v8.setRow g9 (Lb (rb x2 y2))) g8 := by go_simp
        have hr1' : rowAt (v8.setRow g9 (Lb (rb x2 y2))) g8 = #[.int .u32 x2, .int .u32 y2] := by go_simp
        have hr2 : isRow (v8.setRow g9 (Lb (rb x2 y2))) g9 := by go_simp
        have hr2' : rowAt (v8.setRow g9 (Lb (rb x2 y2))) g9 = Lb (rb x2 y2) := by go_simp
        have hr3 : isRow (v8.setRow g9 (Lb (rb x2 y2))) wr.heap.size := by go_simp
        have hr3' : rowAt (v8.setRow g9 (Lb (rb x2 y2))) wr.heap.size = #[.int .i64 1, .int .i64 g, .int .i64 p] := by go_simp
        have hr4 : Below w.heap.size w (v8.setRow g9 (Lb (rb x2 y2))) := by go_simp
        generalize (v8.setRow g9 (Lb (rb x2 y2))) = ww at *
        clear R8_8 R8_8' R9_8 R9_8' R11_8 R11_8'
        have HA := Lib.hid (fun W : World => Alike_c x2 y2 hX.1 hX.2 hY.1 hY.2 W)
        have HH := Lib.hid (show ∀ W : World, Calls Try.prog 15 #[.agg #[.int .u32 x2, .int .u32 y2], .int .i64 g, .int .i64 p] W fun e w' => e = .returned (.bool (rb x2 y2 (spot g p))) ∧ Below W.heap.size W w' from fun W => (Has_c x2 y2 g p W).mono fun e w' ⟨h1, h2⟩ => ⟨by rw [h1, has_bits]; rfl, h2⟩)
        have HRH := Lib.hid (fun W : World => rHas_c (rb x2 y2) g p W)
        generalize rb x2 y2 (spot g p) = q at *
        go_region_held3 (fun w' => isRow w' g8 ∧ rowAt w' g8 = #[.int .u32 x2, .int .u32 y2] ∧ isRow w' g9 ∧ rowAt w' g9 = Lb (rb x2 y2) ∧ isRow w' wr.heap.size ∧ rowAt w' wr.heap.size = #[.int .i64 1, .int .i64 g, .int .i64 p] ∧ Below w.heap.size w w') (first | exact ⟨hr1, hr1', hr2, hr2', hr3, hr3', below_drew0 hr4⟩ | (go_split_ands; exact ⟨rk1 (by assumption) hb, rk2 (by assumption) (by assumption) hb, rk1 (by assumption) hb, rk2 (by assumption) (by assumption) hb, rk1 (by assumption) hb, rk2 (by assumption) (by assumption) hb, bk (by assumption) (Below.size (by assumption)) hb⟩)) (first | (go_at_call 17; (with_reducible refine (HA.out _).mono ?_); rintro e w4 ⟨rfl, hb⟩) | (go_at_call 15; (with_reducible refine (HH.out _).mono ?_); rintro e w4 ⟨rfl, hb⟩) | (go_at_call 21; (with_reducible refine (HRH.out _).mono ?_); rintro e w4 ⟨rfl, hb⟩))
        all_goals
          go_split_ands
          go_wp2
          go_roundw
          case rel => exact ⟨k + 1, by omega, by go_num, x2, y2, by assumption, by assumption, by assumption, by assumption, ⟨by assumption, by assumption⟩, ⟨by assumption, by assumption⟩, by assumption⟩
          case measure => simp [intOf]; omega
      by_cases h2 : d = 2
      · subst h2
        go_wp2_with fail
        refine (Clear_c x y g p _).mono ?_
        rintro e v7 ⟨rfl, hb7⟩
        obtain ⟨R8_7, R8_7'⟩ : Row v7 g8 #[.int .u32 x, .int .u32 y] := Row.step (by go_simp) (by go_simp) hb7
        obtain ⟨R9_7, R9_7'⟩ : Row v7 g9 (Lb (rb x y)) := Row.step (by go_simp) (by go_simp) hb7
        obtain ⟨R11_7, R11_7'⟩ : Row v7 wr.heap.size #[.int .i64 2, .int .i64 g, .int .i64 p] := Row.step (by go_simp) (by go_simp) hb7
        have hB_7 : Below w.heap.size w v7 := bk (by go_simp) (by go_simp) hb7
        clear R8 R8' R9 R9'
        clear hB
        clear hb7
        have hz_7 : w.heap.size ≤ v7.heap.size := hB_7.size
        go_wp2_with fail
        refine (rSet_c (rb x y) g p false _).mono ?_
        rintro e v8 ⟨rfl, hb8⟩
        obtain ⟨R8_8, R8_8'⟩ : Row v8 g8 #[.int .u32 (setA .andNot x g p), .int .u32 (setB .andNot y g p)] := Row.step (by go_simp) (by go_simp) hb8
        obtain ⟨R9_8, R9_8'⟩ : Row v8 g9 (Lb (rb x y)) := Row.step (by go_simp) (by go_simp) hb8
        obtain ⟨R11_8, R11_8'⟩ : Row v8 wr.heap.size #[.int .i64 2, .int .i64 g, .int .i64 p] := Row.step (by go_simp) (by go_simp) hb8
        have hB_8 : Below w.heap.size w v8 := bk (by go_simp) (by go_simp) hb8
        clear R8_7 R8_7' R9_7 R9_7' R11_7 R11_7'
        clear hB_7
        clear hb8
        have hz_8 : w.heap.size ≤ v8.heap.size := hB_8.size
        have hE : Lb (fun j => if j = spot g p then false else rb x y j) = Lb (rb (setA .andNot x g p) (setB .andNot y g p)) := Lb_ext fun i hi => by rw [clear_bits x y g p i hi]; unfold spot; by_cases e : i = 2 * pl p + (g % 2).toNat <;> simp [e]
        obtain ⟨hX, hY⟩ := set_w32 .andNot x y g p ⟨hx0, hx1⟩ ⟨hy0, hy1⟩
        rw [hE]
        clear hE
        generalize setA .andNot x g p = x2 at *
        generalize setB .andNot y g p = y2 at *
        go_wp2_with fail
        have hr1 : isRow (v8.setRow g9 (Lb (rb x2 y2))) g8 := by go_simp
        have hr1' : rowAt (v8.setRow g9 (Lb (rb x2 y2))) g8 = #[.int .u32 x2, .int .u32 y2] := by go_simp
        have hr2 : isRow (v8.setRow g9 (Lb (rb x2 y2))) g9 := by go_simp
        have hr2' : rowAt (v8.setRow g9 (Lb (rb x2 y2))) g9 = Lb (rb x2 y2) := by go_simp
        have hr3 : isRow (v8.setRow g9 (Lb (rb x2 y2))) wr.heap.size := by go_simp
        have hr3' : rowAt (v8.setRow g9 (Lb (rb x2 y2))) wr.heap.size = #[.int .i64 2, .int .i64 g, .int .i64 p] := by go_simp
        have hr4 : Below w.heap.size w (v8.setRow g9 (Lb (rb x2 y2))) := by go_simp
        generalize (v8.setRow g9 (Lb (rb x2 y2))) = ww at *
        clear R8_8 R8_8' R9_8 R9_8' R11_8 R11_8'
        have HA := Lib.hid (fun W : World => Alike_c x2 y2 hX.1 hX.2 hY.1 hY.2 W)
        have HH := Lib.hid (show ∀ W : World, Calls Try.prog 15 #[.agg #[.int .u32 x2, .int .u32 y2], .int .i64 g, .int .i64 p] W fun e w' => e = .returned (.bool (rb x2 y2 (spot g p))) ∧ Below W.heap.size W w' from fun W => (Has_c x2 y2 g p W).mono fun e w' ⟨h1, h2⟩ => ⟨by rw [h1, has_bits]; rfl, h2⟩)
        have HRH := Lib.hid (fun W : World => rHas_c (rb x2 y2) g p W)
        generalize rb x2 y2 (spot g p) = q at *
        go_region_held3 (fun w' => isRow w' g8 ∧ rowAt w' g8 = #[.int .u32 x2, .int .u32 y2] ∧ isRow w' g9 ∧ rowAt w' g9 = Lb (rb x2 y2) ∧ isRow w' wr.heap.size ∧ rowAt w' wr.heap.size = #[.int .i64 2, .int .i64 g, .int .i64 p] ∧ Below w.heap.size w w') (first | exact ⟨hr1, hr1', hr2, hr2', hr3, hr3', below_drew0 hr4⟩ | (go_split_ands; exact ⟨rk1 (by assumption) hb, rk2 (by assumption) (by assumption) hb, rk1 (by assumption) hb, rk2 (by assumption) (by assumption) hb, rk1 (by assumption) hb, rk2 (by assumption) (by assumption) hb, bk (by assumption) (Below.size (by assumption)) hb⟩)) (first | (go_at_call 17; (with_reducible refine (HA.out _).mono ?_); rintro e w4 ⟨rfl, hb⟩) | (go_at_call 15; (with_reducible refine (HH.out _).mono ?_); rintro e w4 ⟨rfl, hb⟩) | (go_at_call 21; (with_reducible refine (HRH.out _).mono ?_); rintro e w4 ⟨rfl, hb⟩))
        all_goals
          go_split_ands
          go_wp2
          go_roundw
          case rel => exact ⟨k + 1, by omega, by go_num, x2, y2, by assumption, by assumption, by assumption, by assumption, ⟨by assumption, by assumption⟩, ⟨by assumption, by assumption⟩, by assumption⟩
          case measure => simp [intOf]; omega
      by_cases h3 : d = 3
      · subst h3
        have hDR := Lib.hid (show (∀ W : World, Calls Try.prog 13 #[.agg #[.int .u32 x, .int .u32 y]] W fun e w' => e = .returned (.tuple #[.agg #[.int .u32 (dropA x y), .int .u32 (dropB x y)], .bool (some? x y)]) ∧ Below W.heap.size W w') ∧ (∀ W : World, Calls Try.prog 20 #[.agg (Lb (rb x y))] W fun e w' => e = .returned (.tuple #[.agg (Lb (rb (dropA x y) (dropB x y))), .bool (some? x y)]) ∧ Below W.heap.size W w') from ⟨fun W => Drop_c x y W, fun W => rDrop_c x y W⟩)
        obtain ⟨hX, hY⟩ := drop_w32 x y ⟨hx0, hx1⟩ ⟨hy0, hy1⟩
        generalize dropA x y = x2 at *
        generalize dropB x y = y2 at *
        generalize some? x y = q0 at *
        have HD1 := Lib.hid hDR.out.1
        have HD2 := Lib.hid hDR.out.2
        clear hDR
        go_wp2_with fail
        refine (HD1.out _).mono ?_
        rintro e v7 ⟨rfl, hb7⟩
        obtain ⟨R8_7, R8_7'⟩ : Row v7 g8 #[.int .u32 x, .int .u32 y] := Row.step (by go_simp) (by go_simp) hb7
        obtain ⟨R9_7, R9_7'⟩ : Row v7 g9 (Lb (rb x y)) := Row.step (by go_simp) (by go_simp) hb7
        obtain ⟨R11_7, R11_7'⟩ : Row v7 wr.heap.size #[.int .i64 3, .int .i64 g, .int .i64 p] := Row.step (by go_simp) (by go_simp) hb7
        have hB_7 : Below w.heap.size w v7 := bk (by go_simp) (by go_simp) hb7
        clear R8 R8' R9 R9'
        clear hB
        clear hb7
        have hz_7 : w.heap.size ≤ v7.heap.size := hB_7.size
        have hne_1 : ¬ g8 = v7.heap.size := by have := R8_7.lt; omega
        have hne_1' : ¬ v7.heap.size = g8 := by have := R8_7.lt; omega
        have hne_2 : ¬ g9 = v7.heap.size := by have := R9_7.lt; omega
        have hne_2' : ¬ v7.heap.size = g9 := by have := R9_7.lt; omega
        have hne_3 : ¬ wr.heap.size = v7.heap.size := by have := R11_7.lt; omega
        have hne_3' : ¬ v7.heap.size = wr.heap.size := by have := R11_7.lt; omega
        go_wp2_with fail
        refine (HD2.out _).mono ?_
        rintro e v8 ⟨rfl, hb8⟩
        obtain ⟨R8_8, R8_8'⟩ : Row v8 g8 #[.int .u32 x, .int .u32 y] := Row.step (by go_simp) (by go_simp) hb8
        obtain ⟨R9_8, R9_8'⟩ : Row v8 g9 (Lb (rb x y)) := Row.step (by go_simp) (by go_simp) hb8
        obtain ⟨R11_8, R11_8'⟩ : Row v8 wr.heap.size #[.int .i64 3, .int .i64 g, .int .i64 p] := Row.step (by go_simp) (by go_simp) hb8
        obtain ⟨R12_8, R12_8'⟩ : Row v8 v7.heap.size #[.int .u32 x2, .int .u32 y2] := Row.step (by go_simp) (by go_simp) hb8
        have hB_8 : Below w.heap.size w v8 := bk (by go_simp) (by go_simp) hb8
        clear R8_7 R8_7' R9_7 R9_7' R11_7 R11_7'
        clear hB_7
        clear hb8
        have hz_8 : w.heap.size ≤ v8.heap.size := hB_8.size
        have hne_4 : ¬ g8 = v8.heap.size := by have := R8_8.lt; omega
        have hne_4' : ¬ v8.heap.size = g8 := by have := R8_8.lt; omega
        have hne_5 : ¬ g9 = v8.heap.size := by have := R9_8.lt; omega
        have hne_5' : ¬ v8.heap.size = g9 := by have := R9_8.lt; omega
        have hne_6 : ¬ wr.heap.size = v8.heap.size := by have := R11_8.lt; omega
        have hne_6' : ¬ v8.heap.size = wr.heap.size := by have := R11_8.lt; omega
        have hne_7 : ¬ v7.heap.size = v8.heap.size := by have := R12_8.lt; omega
        have hne_7' : ¬ v8.heap.size = v7.heap.size := by have := R12_8.lt; omega
        cases q0 <;> go_wp2_with fail
        all_goals go_region
        all_goals go_wp2_with fail
        all_goals
          have hr1 : isRow ((((v8.alloc (Obj.cells (Lb fun x => false) 43)).setRow v8.heap.size (Lb (rb x2 y2))).drew.setRow g8 #[.int .u32 x2, .int .u32 y2]).setRow g9 (Lb (rb x2 y2))) g8 := by go_simp
          have hr1' : rowAt ((((v8.alloc (Obj.cells (Lb fun x => false) 43)).setRow v8.heap.size (Lb (rb x2 y2))).drew.setRow g8 #[.int .u32 x2, .int .u32 y2]).setRow g9 (Lb (rb x2 y2))) g8 = #[.int .u32 x2, .int .u32 y2] := by go_simp
          have hr2 : isRow ((((v8.alloc (Obj.cells (Lb fun x => false) 43)).setRow v8.heap.size (Lb (rb x2 y2))).drew.setRow g8 #[.int .u32 x2, .int .u32 y2]).setRow g9 (Lb (rb x2 y2))) g9 := by go_simp
          have hr2' : rowAt ((((v8.alloc (Obj.cells (Lb fun x => false) 43)).setRow v8.heap.size (Lb (rb x2 y2))).drew.setRow g8 #[.int .u32 x2, .int .u32 y2]).setRow g9 (Lb (rb x2 y2))) g9 = Lb (rb x2 y2) := by go_simp
          have hr3 : isRow ((((v8.alloc (Obj.cells (Lb fun x => false) 43)).setRow v8.heap.size (Lb (rb x2 y2))).drew.setRow g8 #[.int .u32 x2, .int .u32 y2]).setRow g9 (Lb (rb x2 y2))) wr.heap.size := by go_simp
          have hr3' : rowAt ((((v8.alloc (Obj.cells (Lb fun x => false) 43)).setRow v8.heap.size (Lb (rb x2 y2))).drew.setRow g8 #[.int .u32 x2, .int .u32 y2]).setRow g9 (Lb (rb x2 y2))) wr.heap.size = #[.int .i64 3, .int .i64 g, .int .i64 p] := by go_simp
          have hr4 : Below w.heap.size w ((((v8.alloc (Obj.cells (Lb fun x => false) 43)).setRow v8.heap.size (Lb (rb x2 y2))).drew.setRow g8 #[.int .u32 x2, .int .u32 y2]).setRow g9 (Lb (rb x2 y2))) := below_setRow (below_setRow (below_drew0 (by go_simp)) (by omega) _) (by omega) _
          generalize ((((v8.alloc (Obj.cells (Lb fun x => false) 43)).setRow v8.heap.size (Lb (rb x2 y2))).drew.setRow g8 #[.int .u32 x2, .int .u32 y2]).setRow g9 (Lb (rb x2 y2))) = ww at *
          have HA := Lib.hid (fun W : World => Alike_c x2 y2 hX.1 hX.2 hY.1 hY.2 W)
          have HH := Lib.hid (show ∀ W : World, Calls Try.prog 15 #[.agg #[.int .u32 x2, .int .u32 y2], .int .i64 g, .int .i64 p] W fun e w' => e = .returned (.bool (rb x2 y2 (spot g p))) ∧ Below W.heap.size W w' from fun W => (Has_c x2 y2 g p W).mono fun e w' ⟨h1, h2⟩ => ⟨by rw [h1, has_bits]; rfl, h2⟩)
          have HRH := Lib.hid (fun W : World => rHas_c (rb x2 y2) g p W)
          generalize rb x2 y2 (spot g p) = q at *
          go_region_held3 (fun w' => isRow w' g8 ∧ rowAt w' g8 = #[.int .u32 x2, .int .u32 y2] ∧ isRow w' g9 ∧ rowAt w' g9 = Lb (rb x2 y2) ∧ isRow w' wr.heap.size ∧ rowAt w' wr.heap.size = #[.int .i64 3, .int .i64 g, .int .i64 p] ∧ Below w.heap.size w w') (first | exact ⟨hr1, hr1', hr2, hr2', hr3, hr3', below_drew0 hr4⟩ | (go_split_ands; exact ⟨rk1 (by assumption) hb, rk2 (by assumption) (by assumption) hb, rk1 (by assumption) hb, rk2 (by assumption) (by assumption) hb, rk1 (by assumption) hb, rk2 (by assumption) (by assumption) hb, bk (by assumption) (Below.size (by assumption)) hb⟩)) (first | (go_at_call 17; (with_reducible refine (HA.out _).mono ?_); rintro e w4 ⟨rfl, hb⟩) | (go_at_call 15; (with_reducible refine (HH.out _).mono ?_); rintro e w4 ⟨rfl, hb⟩) | (go_at_call 21; (with_reducible refine (HRH.out _).mono ?_); rintro e w4 ⟨rfl, hb⟩))
          all_goals
            go_split_ands
            go_wp2
            go_roundw
            case rel => exact ⟨k + 1, by omega, by go_num, x2, y2, by assumption, by assumption, by assumption, by assumption, ⟨by assumption, by assumption⟩, ⟨by assumption, by assumption⟩, by assumption⟩
            case measure => simp [intOf]; omega
      have hX : W32 x := ⟨hx0, hx1⟩
      have hY : W32 y := ⟨hy0, hy1⟩
      have e1 : (d == 1) = false := by simpa using h1
      have e2 : (d == 2) = false := by simpa using h2
      have e3 : (d == 3) = false := by simpa using h3
      clear hx0 hx1 hy0 hy1 h1 h2 h3
      go_wp2_with fail
      have hr1 : isRow (wr.alloc (Obj.cells #[.int .i64 d, .int .i64 g, .int .i64 p] 39)) g8 := by go_simp
      have hr1' : rowAt (wr.alloc (Obj.cells #[.int .i64 d, .int .i64 g, .int .i64 p] 39)) g8 = #[.int .u32 x, .int .u32 y] := by go_simp
      have hr2 : isRow (wr.alloc (Obj.cells #[.int .i64 d, .int .i64 g, .int .i64 p] 39)) g9 := by go_simp
      have hr2' : rowAt (wr.alloc (Obj.cells #[.int .i64 d, .int .i64 g, .int .i64 p] 39)) g9 = Lb (rb x y) := by go_simp
      have hr3 : isRow (wr.alloc (Obj.cells #[.int .i64 d, .int .i64 g, .int .i64 p] 39)) wr.heap.size := by go_simp
      have hr3' : rowAt (wr.alloc (Obj.cells #[.int .i64 d, .int .i64 g, .int .i64 p] 39)) wr.heap.size = #[.int .i64 d, .int .i64 g, .int .i64 p] := by go_simp
      have hr4 : Below w.heap.size w (wr.alloc (Obj.cells #[.int .i64 d, .int .i64 g, .int .i64 p] 39)) := by go_simp
      generalize (wr.alloc (Obj.cells #[.int .i64 d, .int .i64 g, .int .i64 p] 39)) = ww at *
      have HA := Lib.hid (fun W : World => Alike_c x y hX.1 hX.2 hY.1 hY.2 W)
      have HH := Lib.hid (show ∀ W : World, Calls Try.prog 15 #[.agg #[.int .u32 x, .int .u32 y], .int .i64 g, .int .i64 p] W fun e w' => e = .returned (.bool (rb x y (spot g p))) ∧ Below W.heap.size W w' from fun W => (Has_c x y g p W).mono fun e w' ⟨h1, h2⟩ => ⟨by rw [h1, has_bits]; rfl, h2⟩)
      have HRH := Lib.hid (fun W : World => rHas_c (rb x y) g p W)
      generalize rb x y (spot g p) = q at *
      go_region_held3 (fun w' => isRow w' g8 ∧ rowAt w' g8 = #[.int .u32 x, .int .u32 y] ∧ isRow w' g9 ∧ rowAt w' g9 = Lb (rb x y) ∧ isRow w' wr.heap.size ∧ rowAt w' wr.heap.size = #[.int .i64 d, .int .i64 g, .int .i64 p] ∧ Below w.heap.size w w') (first | exact ⟨hr1, hr1', hr2, hr2', hr3, hr3', below_drew0 hr4⟩ | (go_split_ands; exact ⟨rk1 (by assumption) hb, rk2 (by assumption) (by assumption) hb, rk1 (by assumption) hb, rk2 (by assumption) (by assumption) hb, rk1 (by assumption) hb, rk2 (by assumption) (by assumption) hb, bk (by assumption) (Below.size (by assumption)) hb⟩)) (first | (go_at_call 17; (with_reducible refine (HA.out _).mono ?_); rintro e w4 ⟨rfl, hb⟩) | (go_at_call 15; (with_reducible refine (HH.out _).mono ?_); rintro e w4 ⟨rfl, hb⟩) | (go_at_call 21; (with_reducible refine (HRH.out _).mono ?_); rintro e w4 ⟨rfl, hb⟩))
      all_goals
        go_split_ands
        go_wp2
        go_roundw
        case rel => exact ⟨k + 1, by omega, by go_num, x, y, by assumption, by assumption, by assumption, by assumption, ⟨by assumption, by assumption⟩, ⟨by assumption, by assumption⟩, by assumption⟩
        case measure => simp [intOf]; omega
    · have hkn : k = l.length := by omega
      go_wp2
      go_ret
      exact ⟨rfl, hB⟩
end Go.Proofs.Ytafmacngboeanaa
