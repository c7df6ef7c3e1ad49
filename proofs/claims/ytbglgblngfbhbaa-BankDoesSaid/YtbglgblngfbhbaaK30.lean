/- The document's bank: Sorted. -/
import Derived.Test.YtbglgblngfbhbaaK28
namespace Go.Proofs.Ytbglgblngfbhbaa.Bk
open Go.RowKit Go.Shelf Go.Proofs.Ytbglgblngfbhbaa.IAll Go.Proofs.YtbglgblngfbhbaaW.PrintWords Go.Proofs.YtbglgblngfbhbaaW.PrintLast Go.Proofs.YtbglgblngfbhbaaW.PrintMore
set_option linter.unusedVariables false
set_option linter.unusedSectionVars false
set_option linter.unusedSimpArgs false
attribute [local go_sem] Oper.semAt_some cell_row frozen_row isRow_setCell_eq rowAt_setCell_same rowAt_setCell_other isRow_alloc_eq rowAt_alloc rowAt_new rowAt_new' isRow_setRow_eq rowAt_setRow_same rowAt_setRow_other isRow_drew rowAt_drew size_setRow_ size_drew_ blk_ptr aggOf_agg offv_ptr below_alloc_e below_setCell_e below_setRow_e below_refl_e below_drew_r isRow_drewN rowAt_drewN below_drewN_e le_add_r asideP_alloc_e asideP_setCell_e asideP_setRow_e asideP_drew_e asideP_drewN_e asideP_refl_e allOne_nil allOne_cons Value.oneCell' addr_at mid_FT vE_size vL_size vQ_size vC_size vS_size vP_size vE_one vL_one vQ_one vC_one vS_one vP_one mid_spl spl_size spl_spl mid_vE vE_ext4 vE_ext7 vE_ext8 vC_0 vC_1 vC_2 vC_3
attribute [local go_sem ↓] loadE storeE loadEm storeEm loadEg storeEg loadEmg storeEmg loadL storeL loadLm storeLm loadQ storeQ loadQm storeQm loadC storeC loadCg storeCg loadS storeS loadSm loadP storeP loadPm loadPg storePg 
set_option maxRecDepth 100000

def lenOf : Value → Nat
  | .slice _ n _ => n
  | _ => 0
theorem own_weak {W : World} {n n' e s m : Nat} {v : Value} {xs : List Value} (h : W.ownsRow n e s v m xs) (hle : n' ≤ n) : W.ownsRow n' e s v m xs := by
  refine ⟨h.1, ?_⟩
  rcases h.2 with ⟨rfl, h0⟩ | ⟨g, cap, cur, rfl, hg, hh, hr⟩
  · exact .inl ⟨rfl, h0⟩
  · exact .inr ⟨g, cap, cur, rfl, Nat.le_trans hle hg, hh, hr⟩
theorem ints_cell {W : World} {ob : Nat} {l : List Int} {T : List Value} (h : Row W ob (FT eI l T)) : ∀ (j : Nat) (u : Value), (l.map (Value.int .i64))[j]? = some u → W.cell? ((⟨ob, 0, none⟩ : Addr).add j) = some u := fun j u hu => by
  rw [List.getElem?_map] at hu
  obtain ⟨x, hx, rfl⟩ := Option.map_eq_some_iff.1 hu
  rw [addr_at, cell_row h.1, h.2]
  exact ints_at hx
def Inv (w : World) (ps : List (Int × E)) (p q : Value) (wr : World) : Prop := ∃ (qs : List (Int × E)) (dn : List Int), (∀ l, Sel qs l → Sel ps (dn ++ l)) ∧ (∀ x ∈ qs, x ∈ ps) ∧ dn.length + qs.length ≤ ps.length ∧ wr.ownsRow w.heap.size 3 1 p dn.length (dn.map (Value.int .i64)) ∧ wr.ownsRow w.heap.size 3 1 q qs.length ((qs.map (·.1)).map (Value.int .i64)) ∧ (∀ k, p.ownBlock = some k → q.ownBlock ≠ some k) ∧ Below w.heap.size w wr
set_option maxHeartbeats 4000000 in
theorem rSorted_pos (r : RSh) (first : Int) (d : List E) (ps : List (Int × E)) (ob c : Nat) (T : List Value) (w : World) (hR : RAt r first d w) (h0 : 0 ≤ first) (h1 : first + d.length ≤ 16384) (hI : Row w ob (FT eI (ps.map (·.1)) T)) (hl : ps.length ≤ 16384) (hps : ∀ p ∈ ps, p ∈ allL first d) :
    Calls Try.prog 33 #[.pointer (some ⟨r.g, 0, none⟩), .slice (some ⟨ob, 0, none⟩) ps.length c] w fun e w' => ∃ u ids, e = .returned u ∧ Sel ps ids ∧ w'.ownsRow w.heap.size 3 1 u ids.length (ids.map (Value.int .i64)) ∧ Below w.heap.size w w' := by
  obtain ⟨i0, hi, hz0, hz1, hz2⟩ := info_parts info3
  have HR := Lib.hid hR
  have HNW := Lib.hid (ints_cell hI)
  clear hR hI
  go_enter Try.func33, Try.ntmps33
  go_wp2_with (at_builtin; refine wpList_append_own _ rfl _ _ 51 rfl w.heap.size 3 i0 (.int .i64 0) 1 8 Try.underlying51 hi hz0 hz1 hz2 rfl (by decide) _ _ _ rfl (World.ownsRow_nil _ _ _ _) ⟨ob, 0, none⟩ ps.length c ((ps.map (·.1)).map (Value.int .i64)) rfl (by simp) HNW.out (by intro u hu; obtain ⟨x, -, rfl⟩ := List.mem_map.1 hu; rfl) (by unfold maxLen; omega) (by omega) (Nat.le_refl _) ?_; intro v' w1 hown' hgrow _; refine stop_in ?_)
  refine stop_out ?_
  have hB1 : Below w.heap.size w w1 := Below.grown (Below.refl _ w) hgrow (Nat.le_refl _) (fun j ej => by cases ej)
  rw [Nat.zero_add, List.nil_append] at hown'
  have HIn : Hid (Inv w ps (.slice none 0 0) v' w1) := Lib.hid ⟨ps, [], fun l h => h, fun x h => h, by simp, World.ownsRow_nil _ _ _ _, hown', (fun k e => by cases e), hB1⟩
  clear hgrow hown' hB1 HNW
  go_wp2
  go_loopw [5, 6] (fun p q wr => Inv w ps p q wr) (fun _ q _ => lenOf q)
  case atStart => exact HIn.out
  case round =>
    clear HIn
    obtain ⟨qs, dn, hsel, hmem, hlen, ho, hq, hap, hB⟩ := hrel
    have hq0 := hq
    obtain ⟨pq, cq, rfl, hcq, hia, -⟩ := own_at (l := qs.map (·.1)) hq0 (by simp)
    by_cases hqz : qs = []
    · subst hqz
      go_wp2
      go_ret
      exact ⟨_, dn, rfl, by have := hsel [] Sel.nil; rwa [List.append_nil] at this, ho, hB⟩
    · have hqp : 0 < qs.length := by
        rcases Nat.eq_zero_or_pos qs.length with h | h
        · exact absurd (List.length_eq_zero_iff.1 h) hqz
        · exact h
      have k2 : decide ((0 : Int) < (qs.length : Int)) = true := decide_eq_true (by omega)
      have k2n : decide (0 < qs.length) = true := decide_eq_true hqp
      have hless := sel_less hqz
      obtain ⟨bb, hbb⟩ : ∃ bb, best qs = bb := ⟨_, rfl⟩
      have hBe := rBest_c r first d qs pq cq wr (HR.out.below hB) h0 h1 hia (by omega) (fun x hx => hps x (hmem x hx))
      rw [hbb] at hBe hless
      have HBe := Lib.hid hBe
      have HO := Lib.hid ho
      have HQ := Lib.hid hq
      have HBB := Lib.hid hbb
      have HZ := Lib.hid (And.intro hsel (And.intro hmem (And.intro hap hqz)))
      have lwr := hB.size
      have HLS := Lib.hid hless
      clear hsel hmem hap ho hq hq0 hbb hBe hia hqz hless
      go_wp2_with fail
      refine HBe.out.mono ?_
      rintro e v1 ⟨rfl, hb1⟩
      have l1 := hb1.size
      have hbx : Below v1.heap.size v1 ((v1.alloc (.cells #[.int .i64 0, .int .i64 0, .int .i64 0, .bool false] 63)).setRow v1.heap.size (vC bb)) := below_setRow ((Below.refl _ v1).alloc (Nat.le_refl _) _) (Nat.le_refl _) _
      have hb2 := hb1.trans (hbx.mono l1)
      have HO2 := Lib.hid (own_low HO.out hb2)
      have HQ2 := Lib.hid (own_low HQ.out hb2)
      have hB2 := hB.trans (hb2.mono lwr)
      clear hB hb1 HBe
      go_wp2_with (at_builtin; refine wpList_append_own _ rfl _ _ 51 rfl w.heap.size 3 i0 (.int .i64 0) 1 8 Try.underlying51 hi hz0 hz1 hz2 rfl (by decide) _ _ _ rfl (HO2.out.alloc _) ⟨_, 0, none⟩ 1 1 [.int .i64 bb.f0] rfl rfl (cell_new1' _ _ _ _ (by simp)) (by simp [Value.oneCell']) (by unfold maxLen; omega) (by omega) (by simp; omega) ?_; intro v' w2 hown' hgrow _; refine stop_in ?_)
      refine stop_out ?_
      have hobt : ∀ k, Value.ownBlock u5 = some k → w.heap.size ≤ k ∧ k < wr.heap.size := fun k e => ⟨own_base HO.out k e, own_lt HO.out k e⟩
      have hsz := hgrow.size
      have hC2 : Row w2 v1.heap.size (vC bb) := (show Row ((v1.alloc (.cells #[.int .i64 0, .int .i64 0, .int .i64 0, .bool false] 63)).setRow v1.heap.size (vC bb)) v1.heap.size (vC bb) from Row.setRow isRow_new).same ((hgrow.block _ (by simp; omega) (fun e => by have := hobt _ e.symm; omega)).trans (Below.heap_alloc _ _ _ (by simp)))
      have hQ3 : w2.ownsRow w.heap.size 3 1 (.slice pq qs.length cq) qs.length ((qs.map (·.1)).map (Value.int .i64)) := own_same HQ2.out (fun k e => by
        have hk := own_lt HQ2.out k e
        exact (hgrow.block _ (by simp at hk ⊢; omega) (fun e2 => HZ.out.2.2.1 k e2.symm e)).trans (Below.heap_alloc _ _ _ hk))
      have hB3 : Below w.heap.size w w2 := Below.grown (hB2.alloc (by simp; omega) _) hgrow (by simp; omega) (fun j ej => (hobt j ej).1)
      have hO3 := hown'
      obtain ⟨p3, c3, e3, hc3, hia3, -⟩ := own_at (l := qs.map (·.1)) hQ3 (by simp)
      cases e3
      obtain ⟨ob3, T3, rfl, hL3⟩ := hia3 (by simpa using hqp)
      have lw2 : v1.heap.size < w2.heap.size := hC2.lt
      have lw3 := hL3.lt
      have HW := Lib.hid (And.intro hC2 (And.intro hL3 (And.intro hQ3 (And.intro hO3 hB3))))
      clear hgrow hown' hC2 hQ3 hB3 hO3 hL3 HO2 HQ2 hB2 hb2 hbx HO HQ hobt hia3 hsz
      go_wp2
      go_loopw [8, 9] (fun p q wr => ∃ k : Nat, k ≤ qs.length ∧ q = .int .i64 k ∧ wr.ownsRow w2.heap.size 3 1 p ((qs.take k).filter fun x => x.1 != bb.f0).length ((((qs.take k).filter fun x => x.1 != bb.f0).map (·.1)).map (Value.int .i64)) ∧ Below w2.heap.size w2 wr) (fun _ q _ => qs.length - (intOf q).toNat)
      case atStart => exact ⟨0, by omega, rfl, World.ownsRow_nil _ _ _ _, Below.refl _ _⟩
      case round =>
        obtain ⟨k, hk, rfl, hn, hBk⟩ := hrel
        have lk := hBk.size
        obtain ⟨C1, C1'⟩ := HW.out.1.below hBk lw2
        obtain ⟨L1, L1'⟩ := HW.out.2.1.below hBk lw3
        have HN := Lib.hid hn
        clear hn k2 k2n
        by_cases hlt : k < qs.length
        · have k0 : (0 : Int) ≤ k := by omega
          have k1 : (k : Int) < qs.length := by omega
          have k2 : decide ((k : Int) < qs.length) = true := decide_eq_true k1
          have k2n : decide (k < qs.length) = true := decide_eq_true hlt
          have w3 : IntKind.i64.wrap ((k : Int) + 1) = (k : Int) + 1 := IntWalk.i64_in _ (by omega)
          have hget : qs[k]? = some qs[k] := List.getElem?_eq_getElem hlt
          generalize qs[k] = x at hget
          obtain ⟨id, y⟩ := x
          have hx : (FT eI (qs.map (·.1)) T3)[k]? = some (.int .i64 id) := ints_at (by rw [List.getElem?_map, hget]; rfl)
          have hT : qs.take (k + 1) = qs.take k ++ [(id, y)] := by rw [List.take_add_one, hget]; rfl
          have HT := Lib.hid hT
          clear hget hT
          have hfl : ((qs.take k).filter fun x => x.1 != bb.f0).length ≤ k := Nat.le_trans (List.length_filter_le _ _) (by rw [List.length_take]; exact Nat.min_le_left _ _)
          by_cases he : id = bb.f0
          · have u1 : (id == bb.f0) = true := by simpa using he
            have u2 : (id != bb.f0) = false := by simpa using he
            have HF := Lib.hid (filt_miss (f := fun x : Int × E => x.1 != bb.f0) (qs.take k) (id, y) u2)
            clear he
            go_wp2_with fail
            go_region
            go_wp2
            go_roundw
            case rel =>
              refine ⟨k + 1, by omega, congrArg (Value.int .i64) (by omega), ?_, by go_simp⟩
              rw [HT.out, HF.out]
              exact own_low HN.out (below_drew0 (Below.refl _ _))
            case measure => simp [intOf]; omega
          · have u1 : (id == bb.f0) = false := by simpa using he
            have u2 : (id != bb.f0) = true := by simpa using he
            have HF := Lib.hid (filt_hit (f := fun x : Int × E => x.1 != bb.f0) (qs.take k) (id, y) u2)
            clear he
            have HN2 := Lib.hid (own_low HN.out (below_drew0 (Below.refl wr.heap.size wr)))
            go_wp2_with fail
            go_region
            go_wp2_with (at_builtin; refine wpList_append_own _ rfl _ _ 51 rfl w2.heap.size 3 i0 (.int .i64 0) 1 8 Try.underlying51 hi hz0 hz1 hz2 rfl (by decide) _ _ _ rfl (HN2.out.alloc _) ⟨_, 0, none⟩ 1 1 [.int .i64 id] rfl rfl (cell_new1' _ _ _ _ (by simp)) (by simp [Value.oneCell']) (by unfold maxLen; omega) (by omega) (by simp; omega) ?_; intro v' w4 hown' hgrow _; refine stop_in ?_)
            refine stop_out ?_
            have hB4 : Below w2.heap.size w2 w4 := Below.grown ((show Below w2.heap.size w2 wr.drew by go_simp).alloc (by simp; omega) _) hgrow (by simp; omega) (fun j ej => own_base HN2.out j ej)
            have HO4 := Lib.hid hown'
            clear hgrow hown'
            go_wp2
            go_roundw
            case rel =>
              refine ⟨k + 1, by omega, congrArg (Value.int .i64) (by omega), ?_, hB4⟩
              rw [HT.out, HF.out, List.map_append, List.map_append, List.length_append]
              exact HO4.out
            case measure => simp [intOf]; omega
        · obtain rfl : k = qs.length := by omega
          have k2 : decide ((qs.length : Int) < qs.length) = false := decide_eq_false (by omega)
          have k2n : decide (qs.length < qs.length) = false := decide_eq_false (by omega)
          rw [List.take_of_length_le (Nat.le_refl _)] at HN
          obtain ⟨pn, cn, e9, hcn, -, -⟩ := own_at (l := (qs.filter fun x => x.1 != bb.f0).map (·.1)) HN.out (by simp)
          subst e9
          obtain ⟨hsel, hmem, hap, hqz⟩ := HZ.out
          have hout : Inv w ps v' (.slice pn (qs.filter fun x => x.1 != bb.f0).length cn) wr := by
            refine ⟨qs.filter fun x => x.1 != bb.f0, dn ++ [bb.f0], fun l h => ?_, fun x h => hmem x (List.mem_filter.1 h).1, ?_, ?_, own_weak HN.out (by omega), fun k e => ?_, HW.out.2.2.2.2.trans (hBk.mono HW.out.2.2.2.2.size)⟩
            · rw [List.append_assoc]
              have := Sel.cons qs l hqz (by rw [HBB.out]; exact h)
              rw [HBB.out] at this
              exact hsel _ this
            · have := HLS.out
              rw [List.length_append]
              simp only [List.length_cons, List.length_nil]
              omega
            · rw [List.map_append, List.length_append]
              exact own_low HW.out.2.2.2.1 hBk
            · have h1 := own_lt HW.out.2.2.2.1 k e
              exact fun e2 => by have := own_base HN.out k e2; omega
          have HOut := Lib.hid hout
          clear hout hsel hmem hap hqz
          go_wp2
          go_roundw
          case rel => exact HOut.out
          case measure => exact HLS.out
theorem rSorted_none (g : Nat) (w : World) : Calls Try.prog 33 #[.pointer (some ⟨g, 0, none⟩), .slice none 0 0] w fun e w' => ∃ u ids, e = .returned u ∧ Sel [] ids ∧ w'.ownsRow w.heap.size 3 1 u ids.length (ids.map (Value.int .i64)) ∧ Below w.heap.size w w' := by
  obtain ⟨i0, hi, hz0, hz1, hz2⟩ := info_parts info3
  go_enter Try.func33, Try.ntmps33
  go_wp2
  go_loopw [5, 6] (fun p q wr => p = .slice none 0 0 ∧ q = .slice none 0 0 ∧ Below w.heap.size w wr) (fun _ _ _ => 0)
  case atStart => exact ⟨rfl, rfl, Below.refl _ _⟩
  case round =>
    obtain ⟨rfl, rfl, hB⟩ := hrel
    go_wp2
    go_ret
    exact ⟨_, [], rfl, Sel.nil, World.ownsRow_nil _ _ _ _, hB⟩
theorem rSorted_some (g ob c : Nat) (w : World) : Calls Try.prog 33 #[.pointer (some ⟨g, 0, none⟩), .slice (some ⟨ob, 0, none⟩) 0 c] w fun e w' => ∃ u ids, e = .returned u ∧ Sel [] ids ∧ w'.ownsRow w.heap.size 3 1 u ids.length (ids.map (Value.int .i64)) ∧ Below w.heap.size w w' := by
  obtain ⟨i0, hi, hz0, hz1, hz2⟩ := info_parts info3
  go_enter Try.func33, Try.ntmps33
  go_wp2_with (at_builtin; refine wpList_append_own _ rfl _ _ 51 rfl w.heap.size 3 i0 (.int .i64 0) 1 8 Try.underlying51 hi hz0 hz1 hz2 rfl (by decide) _ _ _ rfl (World.ownsRow_nil _ _ _ _) ⟨ob, 0, none⟩ 0 c [] rfl (by simp) (by intro j u hu; simp at hu) (by intro u hu; cases hu) (by unfold maxLen; omega) (by omega) (Nat.le_refl _) ?_; intro v' w1 hown' hgrow hnil; refine stop_in ?_)
  refine stop_out ?_
  have hB1 : Below w.heap.size w w1 := Below.grown (Below.refl _ w) hgrow (Nat.le_refl _) (fun j ej => by cases ej)
  obtain rfl := hnil.2 (by simp [Act.eval, go_sem])
  clear hnil hgrow hown'
  go_wp2
  go_loopw [5, 6] (fun p q wr => p = .slice none 0 0 ∧ q = .slice none 0 0 ∧ Below w.heap.size w wr) (fun _ _ _ => 0)
  case atStart => exact ⟨rfl, rfl, hB1⟩
  case round =>
    obtain ⟨rfl, rfl, hB⟩ := hrel
    go_wp2
    go_ret
    exact ⟨_, [], rfl, Sel.nil, World.ownsRow_nil _ _ _ _, hB⟩
theorem rSorted_c (r : RSh) (first : Int) (d : List E) (ps : List (Int × E)) (u : Value) (base : Nat) (w : World) (hR : RAt r first d w) (h0 : 0 ≤ first) (h1 : first + d.length ≤ 16384) (hI : w.ownsRow base 3 1 u ps.length ((ps.map (·.1)).map (Value.int .i64))) (hl : ps.length ≤ 16384) (hps : ∀ p ∈ ps, p ∈ allL first d) :
    Calls Try.prog 33 #[.pointer (some ⟨r.g, 0, none⟩), u] w fun e w' => ∃ u ids, e = .returned u ∧ Sel ps ids ∧ w'.ownsRow w.heap.size 3 1 u ids.length (ids.map (Value.int .i64)) ∧ Below w.heap.size w w' := by
  rcases Nat.eq_zero_or_pos ps.length with hz | hz
  · obtain rfl : ps = [] := List.length_eq_zero_iff.1 hz
    rcases hI.2 with ⟨rfl, -⟩ | ⟨ob, cap, cur, rfl, -⟩
    · exact rSorted_none r.g w
    · exact rSorted_some r.g ob cap w
  · obtain ⟨p, c, rfl, hc, hia, -⟩ := own_at hI (by simp)
    obtain ⟨ob, T, rfl, hr⟩ := hia (by simpa using hz)
    exact rSorted_pos r first d ps ob c T w hR h0 h1 hr hl hps
end Go.Proofs.Ytbglgblngfbhbaa.Bk
