/- Contract by hand of layer 8: is a ladder what the document's is? -/
import Derived.Test.YtafmacngboeanaaRef8b
import Derived.Test.YtafmacngboeanaaRw
import Derived.Test.YtafmacngboeanaaIAllx3
import Derived.Test.YtafmacngboeanaaIAllx2
import Derived.Test.YtafmacngboeanaaHC
import Derived.Test.YtafmacngboeanaaP1
import Derived.Deep.RegionHeld3
namespace Go.Proofs.Ytafmacngboeanaa
open Go.RowKit Go.Shelf Go.Proofs.YtafmacngboeanaaW.PrintWords Go.Proofs.Ytafmacngboeanaa.IAll Go.Proofs.Ytafmacngboeanaa.Pure
attribute [local go_sem] Oper.semAt_some cell_row frozen_row isRow_setCell_eq rowAt_setCell_same rowAt_setCell_other isRow_alloc_eq rowAt_alloc rowAt_new isRow_setRow_eq rowAt_setRow_same rowAt_setRow_other isRow_drew rowAt_drew size_setRow_ Lb_size Lb_one blk_ptr aggOf_agg
theorem info26 : (Try.prog.info? 26).map (·.size) = some 2 := by kernel_rfl
theorem loadL {w : World} {ρ : Operand → Value} {x : Operand} {dst : Option Tmp} {t0 : TypeId} {pos : String} {af : Array Edge} {gd : Option (Nat × Bool)}
    (hx : ρ x = .pointer (some ⟨blk (ρ x), 0, none⟩)) (h : isRow w (blk (ρ x))) (hs : (rowAt w (blk (ρ x))).size = 64) :
    (execOp ρ { dst := dst, op := .load 43 x, type := t0, pos := pos, after := af, guard := gd }).run Try.prog w = .ok (.value (.agg (rowAt w (blk (ρ x))))) w := run_load_op Try.underlying43 rfl infoL hx h hs
theorem loadP {w : World} {ρ : Operand → Value} {x : Operand} {dst : Option Tmp} {t0 : TypeId} {pos : String} {af : Array Edge} {gd : Option (Nat × Bool)}
    (hx : ρ x = .pointer (some ⟨blk (ρ x), 0, none⟩)) (h : isRow w (blk (ρ x))) (hs : (rowAt w (blk (ρ x))).size = 2) :
    (execOp ρ { dst := dst, op := .load 26 x, type := t0, pos := pos, after := af, guard := gd }).run Try.prog w = .ok (.value (.agg (rowAt w (blk (ρ x))))) w := run_load_op Try.underlying26 rfl info26 hx h hs
attribute [local go_sem ↓] loadL loadP
theorem same_self (l : List Int) (hl : (l.length : Int) ≤ 9223372036854775806) (n : Nat) : ∀ (k : Nat) (i : Int), 0 ≤ i → (l.length : Int) - i ≤ n → n < k → crierref01_Same.l0 k l l i = some true := by
  induction n with
  | zero =>
    intro k i h0 h1 h2
    obtain ⟨k, rfl⟩ : ∃ m, k = m + 1 := ⟨k - 1, by omega⟩
    simp only [crierref01_Same.l0]
    rw [if_neg (by omega)]
  | succ n ih =>
    intro k i h0 h1 h2
    obtain ⟨k, rfl⟩ : ∃ m, k = m + 1 := ⟨k - 1, by omega⟩
    simp only [crierref01_Same.l0]
    by_cases h : i < (l.length : Int)
    · rw [if_pos h, if_pos h0, if_pos h, if_pos True.intro, w64 _ (by omega)]
      exact ih k (i + 1) (by omega) (by omega) (by omega)
    · rw [if_neg h]
theorem same_refl (l : List Int) (hl : (l.length : Int) ≤ 9223372036854775806) : crierref01_Same.f (l.length + 1) l l = some true := by
  unfold crierref01_Same.f
  rw [if_pos rfl]
  exact same_self l hl l.length _ 0 (by omega) (by omega) (by omega)
theorem bits0_c (a b : Int) (ha : 0 ≤ a) (ha' : a ≤ 4294967295) (hb : 0 ≤ b) (hb' : b ≤ 4294967295) (w : World) : Calls Try.prog 29 #[.agg (Lb (rb a b)), .int .i64 0] w fun e w' => e = .returned (.int .u32 a) ∧ Below w.heap.size w w' := rBits_c a b ha ha' hb hb' 0 (.inl rfl) w
theorem bits1_c (a b : Int) (ha : 0 ≤ a) (ha' : a ≤ 4294967295) (hb : 0 ≤ b) (hb' : b ≤ 4294967295) (w : World) : Calls Try.prog 29 #[.agg (Lb (rb a b)), .int .i64 1] w fun e w' => e = .returned (.int .u32 b) ∧ Below w.heap.size w w' := rBits_c a b ha ha' hb hb' 1 (.inr rfl) w
theorem len_c (a b : Int) (ha : 0 ≤ a) (ha' : a ≤ 4294967295) (hb : 0 ≤ b) (hb' : b ≤ 4294967295) (w : World) : Calls Try.prog 14 #[.agg #[.int .u32 a, .int .u32 b]] w fun e w' => e = .returned (.int .i64 ((allL a b).length : Int)) ∧ Below w.heap.size w w' :=
  ladder_Ladder_Len.calls a b _ w (by rw [len_is a b ⟨ha, ha'⟩ ⟨hb, hb'⟩, allL_pop])
def AlFacts (a b t1 t2 : Int) (l : List Int) (n : Nat) : Prop :=
  (∀ W, Calls Try.prog 11 #[.agg #[.int .u32 a, .int .u32 b]] W fun e w' => e = .returned (.tuple #[.int .i64 t1, .int .i64 t2]) ∧ Below W.heap.size W w') ∧
  (∀ W, Calls Try.prog 27 #[.agg (Lb (rb a b))] W fun e w' => e = .returned (.tuple #[.int .i64 t1, .int .i64 t2]) ∧ Below W.heap.size W w') ∧
  (∀ W, Calls Try.prog 28 #[.agg (Lb (rb a b))] W fun e w' => ∃ A c, e = .returned (.slice A l.length c) ∧ l.length ≤ c ∧ Kd.C (Kd.int .i64) w' A l.length l ∧ Below W.heap.size W w') ∧
  (∀ W, Calls Try.prog 24 #[.agg #[.int .u32 a, .int .u32 b]] W fun e w' => ∃ A c, e = .returned (.slice A l.length c) ∧ l.length ≤ c ∧ Kd.C (Kd.int .i64) w' A l.length l ∧ Below W.heap.size W w') ∧
  (∀ W, Calls Try.prog 29 #[.agg (Lb (rb a b)), .int .i64 0] W fun e w' => e = .returned (.int .u32 a) ∧ Below W.heap.size W w') ∧
  (∀ W, Calls Try.prog 29 #[.agg (Lb (rb a b)), .int .i64 1] W fun e w' => e = .returned (.int .u32 b) ∧ Below W.heap.size W w') ∧
  (∀ W, Calls Try.prog 14 #[.agg #[.int .u32 a, .int .u32 b]] W fun e w' => e = .returned (.int .i64 (n : Int)) ∧ Below W.heap.size W w') ∧
  (∀ (A0 A1 : Option Addr) (c0 c1 : Nat) (W : World), Kd.C (Kd.int .i64) W A0 l.length l → l.length ≤ c0 → Kd.C (Kd.int .i64) W A1 l.length l → l.length ≤ c1 → Calls Try.prog 23 #[.slice A0 l.length c0, .slice A1 l.length c1] W fun e w' => e = .returned (.bool true) ∧ Below W.heap.size W w')
theorem drawn_below {w w' : World} (h : Drawn0 w w') : Below w.heap.size w w' := by
  obtain ⟨n, rfl⟩ := h
  exact below_drawn (Below.refl _ _) n
theorem al_facts (a b : Int) (ha : 0 ≤ a) (ha' : a ≤ 4294967295) (hb : 0 ≤ b) (hb' : b ≤ 4294967295) : ∃ t1 t2 l n, l.length ≤ 128 ∧ (l.length : Int) / 2 = ((n : Nat) : Int) ∧ AlFacts a b t1 t2 l n := by
  have hln : (flat (allL a b)).length ≤ 128 := by have := allL_length a b; rw [flat_length]; omega
  refine ⟨(top a b).1, (top a b).2, flat (allL a b), (allL a b).length, hln, by rw [flat_length]; omega, fun W => Running_c a b W, fun W => rRunning_c a b W, fun W => (rAll_c a b W).mono ?_, fun W => (crierlaw08_All.calls a b _ W rfl).mono ?_,
    fun W => bits0_c a b ha ha' hb hb' W, fun W => bits1_c a b ha ha' hb hb' W, fun W => len_c a b ha ha' hb hb' W, fun A0 A1 c0 c1 W h0 h1 h2 h3 => (crierref01_Same.calls _ A0 c0 _ A1 c1 _ true W h0 h1 h2 h3 (same_refl _ (by omega))).mono fun e w' ⟨h, hd⟩ => ⟨h, drawn_below hd⟩⟩
  · rintro e w' ⟨v, rfl, hrow, hb⟩
    obtain ⟨A, c, rfl, hc, hC⟩ := Kd.R_reads (Kd.R_of_own (h1 := fun _ => rfl) (ok := fun _ => True) hrow (fun _ _ => trivial))
    exact ⟨A, c, rfl, hc, hC, hb⟩
  · rintro e w' ⟨v, rfl, hR, hb⟩
    obtain ⟨A, c, rfl, hc, hC⟩ := Kd.R_reads hR
    exact ⟨A, c, rfl, hc, hC, hb⟩
set_option maxRecDepth 100000 in
set_option maxHeartbeats 4000000 in
theorem Alike_c (a b : Int) (ha : 0 ≤ a) (ha' : a ≤ 4294967295) (hbb : 0 ≤ b) (hb' : b ≤ 4294967295) (w : World) : Calls Try.prog 17 #[.agg #[.int .u32 a, .int .u32 b], .agg (Lb (rb a b))] w fun e w' => e = .returned (.bool true) ∧ Below w.heap.size w w' := by
  obtain ⟨t1, t2, l, n, hln, hlen, hF⟩ := al_facts a b ha ha' hbb hb'
  obtain ⟨f1, f2, f3, f4, f5, f6, f7, f8⟩ := hF
  have F1 := Lib.hid f1
  have F2 := Lib.hid f2
  have F3 := Lib.hid f3
  have F4 := Lib.hid f4
  have F5 := Lib.hid f5
  have F6 := Lib.hid f6
  have F7 := Lib.hid f7
  have F8 := Lib.hid f8
  clear f1 f2 f3 f4 f5 f6 f7 f8 ha ha' hbb hb'
  have hB0 : Below w.heap.size w ((w.alloc (.cells #[.int .u32 a, .int .u32 b] 26)).alloc (.cells (Lb (rb a b)) 43)) := ((Below.refl _ w).alloc (Nat.le_refl _) _).alloc (by simp) _
  have R0 : Row ((w.alloc (.cells #[.int .u32 a, .int .u32 b] 26)).alloc (.cells (Lb (rb a b)) 43)) w.heap.size #[.int .u32 a, .int .u32 b] := ⟨isRow_alloc isRow_new, (rowAt_alloc isRow_new).trans rowAt_new⟩
  have R1 : Row ((w.alloc (.cells #[.int .u32 a, .int .u32 b] 26)).alloc (.cells (Lb (rb a b)) 43)) (w.heap.size + 1) (Lb (rb a b)) := by
    have := Row.new (w.alloc (.cells #[.int .u32 a, .int .u32 b] 26)) 43 (Lb (rb a b)); rwa [World.size_alloc] at this
  go_enter Try.func17, Try.ntmps17
  go_wp2_with fail
  generalize (w.alloc (.cells #[.int .u32 a, .int .u32 b] 26)).alloc (.cells (Lb (rb a b)) 43) = W0 at *
  have hz0 : w.heap.size ≤ W0.heap.size := hB0.size
  go_wp2_with (first | (go_at_call 11; refine (F1.out _).mono ?_; rintro e w1 ⟨rfl, hb1⟩; obtain ⟨R10, R10'⟩ := R0.below hb1 R0.lt; obtain ⟨R11, R11'⟩ := R1.below hb1 R1.lt; have hB1 := bk hB0 hz0 hb1) | (go_at_call 27; refine (F2.out _).mono ?_; rintro e w2 ⟨rfl, hb2⟩; obtain ⟨R20, R20'⟩ := Row.below ⟨R10, R10'⟩ hb2 R10.lt; obtain ⟨R21, R21'⟩ := Row.below ⟨R11, R11'⟩ hb2 R11.lt; have hB2 := bk hB1 hB1.size hb2) | (go_at_call 28; refine (F3.out _).mono ?_; rintro e w3 ⟨A, c, rfl, hc, hC, hb3⟩; obtain ⟨R30, R30'⟩ := Row.below ⟨R20, R20'⟩ hb3 R20.lt; obtain ⟨R31, R31'⟩ := Row.below ⟨R21, R21'⟩ hb3 R21.lt; have hB3 := bk hB2 hB2.size hb3))
  clear R0 R1 R10 R10' R11 R11' R20 R20' R21 R21' hb1 hb2 hb3 hB0 hB1 hB2 hz0
  have hnw : IntKind.i64.wrap (n : Int) = n := IntWalk.i64_in _ (by omega)
  clear hln
  go_region_held3 (fun w' => isRow w' w.heap.size ∧ rowAt w' w.heap.size = #[.int .u32 a, .int .u32 b] ∧ isRow w' (w.heap.size + 1) ∧ rowAt w' (w.heap.size + 1) = Lb (rb a b) ∧ Kd.C (Kd.int .i64) w' A l.length l ∧ Below w.heap.size w w')
    (first | exact ⟨R30, R30', R31, R31', Kd.C_drew hC, below_drew0 hB3⟩ | (go_split_ands; exact ⟨rk1 (by assumption) hb, rk2 (by assumption) (by assumption) hb, rk1 (by assumption) hb, rk2 (by assumption) (by assumption) hb, Kd.C_below (by assumption) hb, bk (by assumption) (Below.size (by assumption)) hb⟩))
    (first | (go_at_call 29; (first | (with_reducible refine (F5.out _).mono ?_) | (with_reducible refine (F6.out _).mono ?_)); rintro e w4 ⟨rfl, hb⟩) | (go_at_call 14; (with_reducible refine (F7.out _).mono ?_); rintro e w4 ⟨rfl, hb⟩) | (go_at_call 24; (with_reducible refine (F4.out _).mono ?_); rintro e w4 ⟨A1, c1, rfl, hc1, hC1, hb⟩) | (go_at_call 23; go_split_ands; refine (F8.out _ _ _ _ _ hC1 hc1 (by assumption) hc).mono ?_; rintro e w5 ⟨rfl, hb⟩))
  go_split_ands
  go_wp2
  go_ret
  exact ⟨rfl, by assumption⟩
end Go.Proofs.Ytafmacngboeanaa
