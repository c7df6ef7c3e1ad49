/- The document's bank: Ready. -/
import Derived.Test.YtbglgblngfbhbaaK24
import Derived.Test.YtbglgblngfbhbaaK23
namespace Go.Proofs.Ytbglgblngfbhbaa.Bk
open Go.RowKit Go.Shelf Go.Proofs.Ytbglgblngfbhbaa.IAll Go.Proofs.YtbglgblngfbhbaaW.PrintWords Go.Proofs.YtbglgblngfbhbaaW.PrintLast Go.Proofs.YtbglgblngfbhbaaW.PrintMore
set_option linter.unusedVariables false
set_option linter.unusedSectionVars false
set_option linter.unusedSimpArgs false
attribute [local go_sem] Oper.semAt_some cell_row frozen_row isRow_setCell_eq rowAt_setCell_same rowAt_setCell_other isRow_alloc_eq rowAt_alloc rowAt_new rowAt_new' isRow_setRow_eq rowAt_setRow_same rowAt_setRow_other isRow_drew rowAt_drew size_setRow_ size_drew_ blk_ptr aggOf_agg offv_ptr below_alloc_e below_setCell_e below_setRow_e below_refl_e below_drew_r isRow_drewN rowAt_drewN below_drewN_e le_add_r asideP_alloc_e asideP_setCell_e asideP_setRow_e asideP_drew_e asideP_drewN_e asideP_refl_e allOne_nil allOne_cons Value.oneCell' addr_at mid_FT vE_size vL_size vQ_size vC_size vS_size vP_size vE_one vL_one vQ_one vC_one vS_one vP_one mid_spl spl_size spl_spl mid_vE vE_ext4 vE_ext7 vE_ext8 vE_0 vE_1 vE_2 vE_3 vE_4 vE_5 vE_6 vE_7 vL_0 vL_1 vL_2 vL_3 vL_4 vL_5 vL_6
attribute [local go_sem ↓] loadE storeE loadEm storeEm loadEg storeEg loadEmg storeEmg loadL storeL loadLm storeLm loadQ storeQ loadQm storeQm loadC storeC loadCg storeCg loadS storeS loadSm loadP storeP loadPm loadPg storePg 
set_option maxRecDepth 100000

theorem below_box33 (w : World) (y : E) : Below w.heap.size w ((w.alloc (.cells #[.bool false, .bool false, .bool false, .bool false, .bool false, .int .i64 0, .int .i64 0] 33)).setRow w.heap.size (vL y.l)) := below_setRow ((Below.refl _ w).alloc (Nat.le_refl _) _) (Nat.le_refl _) _
theorem own_low {W W' : World} {n e s m : Nat} {v : Value} {xs : List Value} (h : W.ownsRow n e s v m xs) (hb : Below W.heap.size W W') : W'.ownsRow n e s v m xs := own_same h (fun k e => hb.block k (own_lt h k e))
set_option maxHeartbeats 4000000 in
theorem rReady_c (r : RSh) (g0 g1 : Bool) (first : Int) (d : List E) (w : World) (hR : RAt r first d w) (h0 : 0 ≤ first) (h1 : first + d.length ≤ 16384) (hgd : ∀ x ∈ d, x.f5 = 0 ∨ x.f5 = 1) :
    Calls Try.prog 31 #[.pointer (some ⟨r.g, 0, none⟩), .agg #[.bool g0, .bool g1]] w fun e w' => ∃ u, e = .returned u ∧ w'.ownsRow (w.heap.size + 1) 3 1 u (rdyL g0 g1 (allL first d)).length ((rdyL g0 g1 (allL first d)).map fun x => Value.int .i64 x.1) ∧ Below w.heap.size w w' := by
  obtain ⟨i0, hi, hz0, hz1, hz2⟩ := info_parts info3
  have lr := hR.gl
  have HR := Lib.hid hR
  obtain ⟨R0, R0'⟩ := hR.row
  clear hR
  go_enter Try.func31, Try.ntmps31
  go_wp2
  go_loopw [5, 6] (fun p q wr => ∃ k : Nat, k ≤ d.length ∧ q = .int .i64 k ∧ wr.ownsRow (w.heap.size + 1) 3 1 p (rdyL g0 g1 ((allL first d).take k)).length ((rdyL g0 g1 ((allL first d).take k)).map fun x => Value.int .i64 x.1) ∧ Row wr w.heap.size #[.bool g0, .bool g1] ∧ Below w.heap.size w wr) (fun _ q _ => d.length - (intOf q).toNat)
  case atStart => exact ⟨0, by omega, rfl, World.ownsRow_nil _ _ _ _, Row.new _ _ _, (Below.refl _ w).alloc (Nat.le_refl _) _⟩
  case round =>
    obtain ⟨k, hk, rfl, ho, hg, hB⟩ := hrel
    have lz := hg.lt
    have hR' := HR.out.below hB
    obtain ⟨R1, R1'⟩ := hR'.row
    have HO := Lib.hid ho
    obtain ⟨G1, G1'⟩ := hg
    have ng : ¬ w.heap.size = wr.heap.size := by omega
    have nr : ¬ r.g = wr.heap.size := by omega
    have nr2 : ¬ r.g = w.heap.size := by omega
    have HL := Lib.hid hR'.gl
    clear ho R0 R0'
    by_cases hlt : k < d.length
    · obtain ⟨e1, e2, ⟨L1, L1'⟩, -, -⟩ := hR'.pos (by omega)
      rw [e1, e2] at R1'
      have nl : ¬ r.l = wr.heap.size := by have := L1.lt; omega
      have k0 : (0 : Int) ≤ k := by omega
      have k1 : (k : Int) < d.length := by omega
      have k2 : decide ((k : Int) < d.length) = true := decide_eq_true k1
      have w3 : IntKind.i64.wrap ((k : Int) + 1) = (k : Int) + 1 := IntWalk.i64_in _ (by omega)
      have w4 : IntKind.i64.wrap (first + (k : Int)) = first + k := IntWalk.i64_in _ (by omega)
      have hget : d[k]? = some d[k] := List.getElem?_eq_getElem hlt
      have hy0 := hgd d[k] (List.getElem_mem hlt)
      generalize d[k] = y at hget hy0
      have hT : (allL first d).take (k + 1) = (allL first d).take k ++ [(first + (k : Int), y)] := by rw [List.take_add_one, allL_get, hget]; rfl
      have hx7 : (FT eEL d r.T).extract (k * 7) (k * 7 + 7) = vL y.l := FT_ext eEL_len hget (Nat.le_refl _)
      have hs7' : k * 7 + 7 ≤ (FT eEL d r.T).size := by rw [FT_size eEL_len]; omega
      have HT := Lib.hid hT
      clear hR' e1 e2 hget hT hlt
      rcases Bool.eq_false_or_eq_true y.f4 with h4 | h4
      rotate_left
      · have h4' : y.l.f4 = false := h4
        have hX := below_box33 wr y
        have HH := Lib.hid (filt_miss (f := rdyB g0 g1) ((allL first d).take k) (first + (k : Int), y) (by simp [rdyB, h4]))
        go_wp2
        go_roundw
        case rel =>
          refine ⟨k + 1, by omega, congrArg (Value.int .i64) (by omega), ?_, (show Row wr _ _ from ⟨G1, G1'⟩).below hX lz, hB.trans (hX.mono hB.size)⟩
          rw [HT.out]; unfold rdyL; rw [HH.out]
          exact own_low HO.out hX
        case measure => simp [intOf]; omega
      · have h4' : y.l.f4 = true := h4
        rcases hy0 with h5 | h5
        · have h5' : y.l.f5 = 0 := h5
          cases g0 with
          | false =>
            have hX := below_box33 wr y
            have HH := Lib.hid (filt_miss (f := rdyB false g1) ((allL first d).take k) (first + (k : Int), y) (by simp [rdyB, gsel, h5]))
            go_wp2
            go_roundw
            case rel =>
              refine ⟨k + 1, by omega, congrArg (Value.int .i64) (by omega), ?_, (show Row wr _ _ from ⟨G1, G1'⟩).below hX lz, hB.trans (hX.mono hB.size)⟩
              rw [HT.out]; unfold rdyL; rw [HH.out]
              exact own_low HO.out hX
            case measure => simp [intOf]; omega
          | true =>
            have HC := Lib.hid (fun (U : World) => rready_c y.q U)
            go_wp2_with fail
            refine (HC.out _).mono ?_
            rintro e v1 ⟨rfl, hb⟩
            have hX := (below_box33 wr y).trans (hb.mono (below_box33 wr y).size)
            have R2 := (show Row wr r.g _ from ⟨R1, R1'⟩).below hX HL.out
            have G2 := (show Row wr w.heap.size _ from ⟨G1, G1'⟩).below hX lz
            have hO := own_low HO.out hX
            have lv := hX.size
            have hBv := hB.trans (hX.mono hB.size)
            cases hr_ : ready y.q with
            | false =>
              clear hX
              have hX := (below_box33 wr y).trans (hb.mono (below_box33 wr y).size)
              clear hb R2 G2 hO
              have HH := Lib.hid (filt_miss (f := rdyB true g1) ((allL first d).take k) (first + (k : Int), y) (by simp only [rdyB]; rw [hr_]; simp))
              go_wp2
              go_roundw
              case rel =>
                refine ⟨k + 1, by omega, congrArg (Value.int .i64) (by omega), ?_, (show Row wr _ _ from ⟨G1, G1'⟩).below hX lz, hB.trans (hX.mono hB.size)⟩
                rw [HT.out]; unfold rdyL; rw [HH.out]
                exact own_low HO.out hX
              case measure => simp [intOf]; omega
            | true =>
              have hz : rdyB true g1 (first + (k : Int), y) = true := by simp only [rdyB]; rw [hr_]; simp [gsel, h4, h5]
              have HH := Lib.hid (filt_hit (f := rdyB true g1) ((allL first d).take k) (first + (k : Int), y) hz)
              have HO2 := Lib.hid hO
              have HG2 := Lib.hid G2
              have hle : (rdyL true g1 ((allL first d).take k)).length ≤ k := Nat.le_trans (List.length_filter_le _ _) (by rw [List.length_take]; exact Nat.min_le_left _ _)
              obtain ⟨R2, R2'⟩ := R2
              clear hb hX hO G2 G1 G1' R1 R1' L1 L1' hx7 hz hr_ HC
              go_wp2_with (at_builtin; refine wpList_append_own _ rfl _ _ 51 rfl (w.heap.size + 1) 3 i0 (.int .i64 0) 1 8 Try.underlying51 hi hz0 hz1 hz2 rfl (by decide) _ _ _ rfl (HO2.out.alloc _) ⟨v1.heap.size, 0, none⟩ 1 1 [.int .i64 (first + (k : Int))] rfl rfl (cell_new1 _ _ _) (by simp [Value.oneCell']) (by unfold maxLen; omega) (by omega) (by simp; omega) ?_; intro v' w1 hown' hgrow _; refine stop_in ?_)
              refine stop_out ?_
              have hg9 : Row w1 w.heap.size #[.bool true, .bool g1] := HG2.out.same ((hgrow.block _ (by simp; omega) (fun e => by have := own_base HO2.out _ e.symm; omega)).trans (Below.heap_alloc _ _ _ HG2.out.lt))
              have hB9 : Below w.heap.size w w1 := Below.grown (hBv.alloc (by omega) _) hgrow (by simp; omega) (fun j ej => by have := own_base HO2.out j ej; omega)
              clear hgrow
              go_wp2
              go_roundw
              case rel =>
                refine ⟨k + 1, by omega, congrArg (Value.int .i64) (by omega), ?_, hg9, hB9⟩
                rw [HT.out]
                unfold rdyL
                rw [HH.out, List.map_append, List.length_append]
                exact hown'
              case measure => simp [intOf]; omega
        · have h5' : y.l.f5 = 1 := h5
          cases g1 with
          | false =>
            have hX := below_box33 wr y
            have HH := Lib.hid (filt_miss (f := rdyB g0 false) ((allL first d).take k) (first + (k : Int), y) (by simp [rdyB, gsel, h5]))
            go_wp2
            go_roundw
            case rel =>
              refine ⟨k + 1, by omega, congrArg (Value.int .i64) (by omega), ?_, (show Row wr _ _ from ⟨G1, G1'⟩).below hX lz, hB.trans (hX.mono hB.size)⟩
              rw [HT.out]; unfold rdyL; rw [HH.out]
              exact own_low HO.out hX
            case measure => simp [intOf]; omega
          | true =>
            have HC := Lib.hid (fun (U : World) => rready_c y.q U)
            go_wp2_with fail
            refine (HC.out _).mono ?_
            rintro e v1 ⟨rfl, hb⟩
            have hX := (below_box33 wr y).trans (hb.mono (below_box33 wr y).size)
            have R2 := (show Row wr r.g _ from ⟨R1, R1'⟩).below hX HL.out
            have G2 := (show Row wr w.heap.size _ from ⟨G1, G1'⟩).below hX lz
            have hO := own_low HO.out hX
            have lv := hX.size
            have hBv := hB.trans (hX.mono hB.size)
            cases hr_ : ready y.q with
            | false =>
              clear hX
              have hX := (below_box33 wr y).trans (hb.mono (below_box33 wr y).size)
              clear hb R2 G2 hO
              have HH := Lib.hid (filt_miss (f := rdyB g0 true) ((allL first d).take k) (first + (k : Int), y) (by simp only [rdyB]; rw [hr_]; simp))
              go_wp2
              go_roundw
              case rel =>
                refine ⟨k + 1, by omega, congrArg (Value.int .i64) (by omega), ?_, (show Row wr _ _ from ⟨G1, G1'⟩).below hX lz, hB.trans (hX.mono hB.size)⟩
                rw [HT.out]; unfold rdyL; rw [HH.out]
                exact own_low HO.out hX
              case measure => simp [intOf]; omega
            | true =>
              have hz : rdyB g0 true (first + (k : Int), y) = true := by simp only [rdyB]; rw [hr_]; simp [gsel, h4, h5]
              have HH := Lib.hid (filt_hit (f := rdyB g0 true) ((allL first d).take k) (first + (k : Int), y) hz)
              have HO2 := Lib.hid hO
              have HG2 := Lib.hid G2
              have hle : (rdyL g0 true ((allL first d).take k)).length ≤ k := Nat.le_trans (List.length_filter_le _ _) (by rw [List.length_take]; exact Nat.min_le_left _ _)
              obtain ⟨R2, R2'⟩ := R2
              clear hb hX hO G2 G1 G1' R1 R1' L1 L1' hx7 hz hr_ HC
              go_wp2_with (at_builtin; refine wpList_append_own _ rfl _ _ 51 rfl (w.heap.size + 1) 3 i0 (.int .i64 0) 1 8 Try.underlying51 hi hz0 hz1 hz2 rfl (by decide) _ _ _ rfl (HO2.out.alloc _) ⟨v1.heap.size, 0, none⟩ 1 1 [.int .i64 (first + (k : Int))] rfl rfl (cell_new1 _ _ _) (by simp [Value.oneCell']) (by unfold maxLen; omega) (by omega) (by simp; omega) ?_; intro v' w1 hown' hgrow _; refine stop_in ?_)
              refine stop_out ?_
              have hg9 : Row w1 w.heap.size #[.bool g0, .bool true] := HG2.out.same ((hgrow.block _ (by simp; omega) (fun e => by have := own_base HO2.out _ e.symm; omega)).trans (Below.heap_alloc _ _ _ HG2.out.lt))
              have hB9 : Below w.heap.size w w1 := Below.grown (hBv.alloc (by omega) _) hgrow (by simp; omega) (fun j ej => by have := own_base HO2.out j ej; omega)
              clear hgrow
              go_wp2
              go_roundw
              case rel =>
                refine ⟨k + 1, by omega, congrArg (Value.int .i64) (by omega), ?_, hg9, hB9⟩
                rw [HT.out]
                unfold rdyL
                rw [HH.out, List.map_append, List.length_append]
                exact hown'
              case measure => simp [intOf]; omega
    · obtain rfl : k = d.length := by omega
      have k2 : decide ((d.length : Int) < d.length) = false := decide_eq_false (by omega)
      go_wp2
      go_ret
      rw [List.take_of_length_le (by rw [allL_length]; exact Nat.le_refl _)] at HO
      exact ⟨_, rfl, HO.out, hB⟩
end Go.Proofs.Ytbglgblngfbhbaa.Bk
