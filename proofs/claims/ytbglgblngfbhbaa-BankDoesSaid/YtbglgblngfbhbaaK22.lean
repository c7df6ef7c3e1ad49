/- The law BankGroups. -/
import Derived.Test.YtbglgblngfbhbaaK21
import Derived.Test.YtbglgblngfbhbaaTk
namespace Go.Proofs.Ytbglgblngfbhbaa.Bk
open Go.RowKit Go.Shelf Go.Proofs.Ytbglgblngfbhbaa.IAll Go.Proofs.YtbglgblngfbhbaaW.PrintWords Go.Proofs.YtbglgblngfbhbaaW.PrintLast Go.Proofs.YtbglgblngfbhbaaW.PrintMore
set_option linter.unusedVariables false
set_option linter.unusedSectionVars false
set_option linter.unusedSimpArgs false
attribute [local go_sem] Oper.semAt_some cell_row frozen_row isRow_setCell_eq rowAt_setCell_same rowAt_setCell_other isRow_alloc_eq rowAt_alloc rowAt_new rowAt_new' isRow_setRow_eq rowAt_setRow_same rowAt_setRow_other isRow_drew rowAt_drew size_setRow_ size_drew_ blk_ptr aggOf_agg offv_ptr below_alloc_e below_setCell_e below_setRow_e below_refl_e below_drew_r isRow_drewN rowAt_drewN below_drewN_e le_add_r asideP_alloc_e asideP_setCell_e asideP_setRow_e asideP_drew_e asideP_drewN_e asideP_refl_e allOne_nil allOne_cons Value.oneCell' addr_at mid_FT vE_size vL_size vQ_size vC_size vS_size vP_size vE_one vL_one vQ_one vC_one vS_one vP_one mid_spl spl_size spl_spl mid_vE vE_ext4 vE_ext7 vE_ext8 vE_0 vE_1 vE_2 vE_3 vE_4 vE_5 vE_6 vE_7
attribute [local go_sem ↓] loadE storeE loadEm storeEm loadEg storeEg loadEmg storeEmg loadL storeL loadLm storeLm loadQ storeQ loadQm storeQm loadC storeC loadCg storeCg loadS storeS loadSm loadP storeP loadPm loadPg storePg 
set_option maxRecDepth 100000
theorem only_wide {P : Program} {c : Code} {K : Act → World → Prop} {Q : Exit → Act → World → Prop} {n : Nat} {a : Act} {w : World} (h : c.wp P (Exit.then K (fun _ _ _ => False)) a w) : c.wpIn Fence.wide n P (Exit.then K Q) a w :=
  wpIn_mono (wpIn_wide.2 h) (fun e a w q => by cases e <;> first | exact q | exact q.elim)
theorem leave_bool {fn : Func} {p : Tmp} {g D : Nat} {b : Bool} {R : Ending → World → Prop} {tmps : Array Value} {w : World} (hK : w.heap[D]? = some (.deferred (some []))) (hres : fn.results = #[.cell p 4]) (hp : tmps.getD p undef = .pointer (some ⟨g, 0, none⟩)) (hg : isRow w g) (hg' : rowAt w g = #[.bool b]) (hne : ¬ D = g) (hR : R (.returned (.bool b)) (w.putObj D (.deferred none))) :
    bodyPostM Fence.wide 0 Try.prog fn R .ret { tmps := tmps, defers := [{ target := .collected D, args := #[] }] } w := by
  have hr : Row (w.putObj D (.deferred none)) g #[.bool b] := Row.same ⟨hg, hg'⟩ (World.putObj_heap_other (fun e => hne e.symm))
  have d1 : (w.putObj D (.deferred none)).cell? ⟨g, 0, none⟩ = some (.bool b) := by rw [cell_row hr.1, hr.2]; rfl
  exact leave_mark hK (v := .bool b) (by have hp' : tmps[p]?.getD undef = .pointer (some ⟨g, 0, none⟩) := by simpa using hp
                                         simp [results, hres, go_sem, hp', d1]) hR

theorem ready_b (b : BSh) (g0 g1 : Bool) (first : Int) (d : List E) (w : World) (h : BAt b first d w) (h0 : 0 ≤ first) (h1 : first + d.length ≤ 16384) (hg : goodD d) :
    Calls Try.prog 20 #[.pointer (some ⟨b.g, 0, none⟩), .agg #[.bool g0, .bool g1]] w fun e w' => ∃ v, e = .returned v ∧ (∀ F : Nat → Prop, (∀ k, F k → k < w.heap.size ∧ k ≠ b.g) → ItV F v (rdyL g0 g1 (allL first d)) w') ∧ Below w.heap.size w w' :=
  Ready_c b.g b.e b.c d.length g0 g1 first d b.T w rfl h0 h1 h.row h.ents (good_grp hg)
theorem rdy_len (g0 g1 : Bool) (first : Int) (d : List E) : (rdyL g0 g1 (allL first d)).length ≤ d.length := by
  unfold rdyL
  exact Nat.le_trans (List.length_filter_le _ _) (by rw [allL_length]; exact Nat.le_refl _)
/-- in both groups, and in one -/
theorem rdy_of0 {xs : List (Int × E)} (h : ∀ p ∈ xs, p.2.f5 = 0 ∨ p.2.f5 = 1) : (rdyL true true xs).filter (ofB 0) = rdyL true false xs := by
  unfold rdyL
  rw [List.filter_filter]
  refine List.filter_congr (fun p hp => ?_)
  rcases h p hp with e | e <;> simp [ofB, rdyB, gsel, e]
theorem rdy_of1 {xs : List (Int × E)} (h : ∀ p ∈ xs, p.2.f5 = 0 ∨ p.2.f5 = 1) : (rdyL true true xs).filter (ofB 1) = rdyL false true xs := by
  unfold rdyL
  rw [List.filter_filter]
  refine List.filter_congr (fun p hp => ?_)
  rcases h p hp with e | e <;> simp [ofB, rdyB, gsel, e]
theorem rdy_sum {xs : List (Int × E)} (h : ∀ p ∈ xs, p.2.f5 = 0 ∨ p.2.f5 = 1) : (rdyL true true xs).length = (rdyL true false xs).length + (rdyL false true xs).length := by
  induction xs with
  | nil => rfl
  | cons p r ih =>
    have ih' := ih (fun q hq => h q (List.mem_cons_of_mem _ hq))
    unfold rdyL at *
    have hp := h p List.mem_cons_self
    rw [List.filter_cons, List.filter_cons, List.filter_cons]
    rcases hp with e | e <;> cases h4 : p.2.f4 <;> cases h5 : ready p.2.q <;> simp [rdyB, gsel, e, h4, h5] <;> omega
theorem rdy_none (xs : List (Int × E)) : rdyL false false xs = [] := by
  unfold rdyL
  refine List.filter_eq_nil_iff.2 (fun p _ => ?_)
  simp [rdyB, gsel]
end Go.Proofs.Ytbglgblngfbhbaa.Bk
