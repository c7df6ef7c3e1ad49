/- Selection: what is first, then what is first of the others, is what is sorted. -/
import Derived.Test.YtbglgblngfbhbaaK27
namespace Go.Proofs.Ytbglgblngfbhbaa.Bk
open Go.RowKit Go.Shelf Go.Proofs.Ytbglgblngfbhbaa.IAll Go.Proofs.YtbglgblngfbhbaaW.PrintWords Go.Proofs.YtbglgblngfbhbaaW.PrintLast Go.Proofs.YtbglgblngfbhbaaW.PrintMore
set_option linter.unusedVariables false
set_option linter.unusedSectionVars false
set_option linter.unusedSimpArgs false
attribute [local go_sem] Oper.semAt_some cell_row frozen_row isRow_setCell_eq rowAt_setCell_same rowAt_setCell_other isRow_alloc_eq rowAt_alloc rowAt_new rowAt_new' isRow_setRow_eq rowAt_setRow_same rowAt_setRow_other isRow_drew rowAt_drew size_setRow_ size_drew_ blk_ptr aggOf_agg offv_ptr below_alloc_e below_setCell_e below_setRow_e below_refl_e below_drew_r isRow_drewN rowAt_drewN below_drewN_e le_add_r asideP_alloc_e asideP_setCell_e asideP_setRow_e asideP_drew_e asideP_drewN_e asideP_refl_e allOne_nil allOne_cons Value.oneCell' addr_at mid_FT vE_size vL_size vQ_size vC_size vS_size vP_size vE_one vL_one vQ_one vC_one vS_one vP_one 
attribute [local go_sem ↓] loadE storeE loadEm storeEm loadEg storeEg loadEmg storeEmg loadL storeL loadLm storeLm loadQ storeQ loadQm storeQm loadC storeC loadCg storeCg loadS storeS loadSm loadP storeP loadPm loadPg storePg 
set_option maxRecDepth 100000

inductive Sel : List (Int × E) → List Int → Prop
  | nil : Sel [] []
  | cons (qs : List (Int × E)) (l : List Int) (h : qs ≠ []) (h2 : Sel (qs.filter fun p => p.1 != (best qs).f0) l) : Sel qs ((best qs).f0 :: l)
theorem best_in {qs : List (Int × E)} (h : qs ≠ []) : ∃ x ∈ qs, best qs = ⟨x.1, x.2.f6, x.2.f5, true⟩ ∧ ∀ y ∈ qs, bef y.2.f6 y.1 x.2.f6 x.1 = false := by
  rcases best_is qs with ⟨e, -⟩ | h2
  · exact absurd e h
  · exact h2
theorem sel_less {qs : List (Int × E)} (h : qs ≠ []) : (qs.filter fun p => p.1 != (best qs).f0).length < qs.length := by
  obtain ⟨x, hx, e, -⟩ := best_in h
  refine List.length_filter_lt_length_iff_exists.2 ⟨x, hx, ?_⟩
  rw [e]
  simp
theorem sel_srt {ps : List (Int × E)} {ids : List Int} (h : Sel ps ids) : ∀ l : List P, l.Perm (prs ps) → SrtP l → (ps.map (·.1)).Nodup → l.map P.f1 = ids := by
  induction h with
  | nil =>
    intro l hp _ _
    have : l = [] := List.Perm.eq_nil hp
    subst this
    rfl
  | cons qs r hne h2 ih =>
    intro l hp hs hn
    have hl : (l.map P.f1).Perm (qs.map (·.1)) := by
      have := hp.map P.f1
      unfold prs at this
      rwa [List.map_map] at this
    have hln := hl.nodup_iff.2 hn
    obtain ⟨y, hy, e, hmin⟩ := best_in hne
    cases l with
    | nil =>
      exact absurd (List.length_eq_zero_iff.1 (by have := hp.length_eq; simpa [prs] using this.symm)) hne
    | cons x t =>
      have hxm : x ∈ prs qs := hp.mem_iff.1 (by simp)
      obtain ⟨p, hpq, hxe⟩ := List.mem_map.1 hxm
      have a1 := hmin p hpq
      have hym : (⟨y.2.f6, y.1⟩ : P) ∈ x :: t := hp.mem_iff.2 (List.mem_map.2 ⟨y, hy, rfl⟩)
      have hx1 : x.f1 = y.1 := by
        rcases List.mem_cons.1 hym with e2 | e2
        · rw [← e2]
        · have a2 := (List.pairwise_cons.1 hs).1 _ e2
          rw [lt_is] at a2
          subst hxe
          rw [← Bool.not_eq_true, bef_iff] at a1 a2
          simp only at a1 a2 ⊢
          omega
      have hb : (best qs).f0 = x.f1 := by rw [e, hx1]
      rw [List.map_cons, hb]
      congr 1
      refine ih t ?_ (List.pairwise_cons.1 hs).2 ?_
      · have h3 := hp.filter (fun q : P => q.f1 != x.f1)
        have h4 : (x :: t).filter (fun q : P => q.f1 != x.f1) = t := by
          rw [List.filter_cons, if_neg (by simp)]
          refine List.filter_eq_self.2 fun q hq => ?_
          have := (List.pairwise_cons.1 (show (x.f1 :: t.map P.f1).Pairwise (· ≠ ·) from hln)).1 q.f1 (List.mem_map.2 ⟨q, hq, rfl⟩)
          simpa using Ne.symm this
        rw [h4] at h3
        have h5 : (prs qs).filter (fun q : P => q.f1 != x.f1) = prs (qs.filter fun p => p.1 != (best qs).f0) := by
          unfold prs
          rw [List.filter_map, hb]
          rfl
        rw [h5] at h3
        exact h3
      · exact List.Nodup.sublist (List.Sublist.map _ List.filter_sublist) hn
theorem rdy_nodup (g0 g1 : Bool) (first : Int) (d : List E) : ((rdyL g0 g1 (allL first d)).map (·.1)).Nodup :=
  List.Nodup.sublist (List.Sublist.map _ List.filter_sublist) (allL_nodup d first)
theorem rdy_mem {g0 g1 : Bool} {first : Int} {d : List E} : ∀ p ∈ rdyL g0 g1 (allL first d), p ∈ allL first d := fun p hp => (List.mem_filter.1 hp).1
end Go.Proofs.Ytbglgblngfbhbaa.Bk
