/- The law BankKeeps. -/
import Derived.Test.YtbglgblngfbhbaaMB
namespace Go.Proofs.Ytbglgblngfbhbaa.Bk
open Go.RowKit Go.Shelf Go.Proofs.Ytbglgblngfbhbaa.IAll Go.Proofs.YtbglgblngfbhbaaW.PrintWords Go.Proofs.YtbglgblngfbhbaaW.PrintLast Go.Proofs.YtbglgblngfbhbaaW.PrintMore
set_option linter.unusedVariables false
set_option linter.unusedSectionVars false
set_option linter.unusedSimpArgs false
attribute [local go_sem] Oper.semAt_some cell_row frozen_row isRow_setCell_eq rowAt_setCell_same rowAt_setCell_other isRow_alloc_eq rowAt_alloc rowAt_new rowAt_new' isRow_setRow_eq rowAt_setRow_same rowAt_setRow_other isRow_drew rowAt_drew size_setRow_ size_drew_ blk_ptr aggOf_agg offv_ptr below_alloc_e below_setCell_e below_setRow_e below_refl_e below_drew_r isRow_drewN rowAt_drewN below_drewN_e le_add_r asideP_alloc_e asideP_setCell_e asideP_setRow_e asideP_drew_e asideP_drewN_e asideP_refl_e allOne_nil allOne_cons Value.oneCell' addr_at mid_FT vE_size vL_size vQ_size vC_size vS_size vP_size vE_one vL_one vQ_one vC_one vS_one vP_one mid_spl spl_size spl_spl mid_vS vS_extl vS_0 vS_1 vS_2 vS_3 vS_4 vS_5 vS_6 vS_7 vS_8 vS_9 vS_10
attribute [local go_sem ↓] loadE storeE loadEm storeEm loadEg storeEg loadEmg storeEmg loadL storeL loadLm storeLm loadQ storeQ loadQm storeQm loadC storeC loadCg storeCg loadS storeS loadSm loadP storeP loadPm loadPg storePg 
set_option maxRecDepth 100000
attribute [local go_sem high] eqE eqC

def getE (first : Int) (d : List E) (id : Int) : E × Int := if hasB first d.length id then (d.getD (kOf first id) zE, 0) else (zE, 90)
theorem Get_c (b : BSh) (first id : Int) (d : List E) (w : World) (h : BAt b first d w) (h0 : 0 ≤ first) (hi : Wid id) :
    Calls Try.prog 12 #[.pointer (some ⟨b.g, 0, none⟩), .int .i64 id] w fun e w' => e = .returned (.tuple #[.agg (vE (getE first d id).1), .int .i64 (getE first d id).2]) ∧ Below w.heap.size w w' := by
  unfold getE
  cases hh : hasB first d.length id with
  | false => exact Get_miss b.g b.e b.c d.length first id w h.row hh h0 hi
  | true =>
    obtain ⟨k, hk, rfl⟩ := hasB_yes hh
    rw [if_pos rfl, show kOf first (first + k) = k by unfold kOf; omega, List.getD_eq_getElem?_getD, List.getElem?_eq_getElem hk]
    exact Get_hit b.g b.e b.c d.length first d b.T k d[k] w rfl h.row h.ents (List.getElem?_eq_getElem hk) h0 hi
theorem Has_b (b : BSh) (first id : Int) (d : List E) (w : World) (h : BAt b first d w) (h0 : 0 ≤ first) (hi : Wid id) :
    Calls Try.prog 14 #[.pointer (some ⟨b.g, 0, none⟩), .int .i64 id] w fun e w' => e = .returned (.bool (hasB first d.length id)) ∧ Below w.heap.size w w' := Has_c b.g b.e b.c d.length first id w h.row h0 hi
/-- what befalls, in the law -/
def keepR (first : Int) (d : List E) (x : S) : Int := if x.f0 = 2 then doR first d x.f1 else putR first d x.f1 x.e
def keepL (first : Int) (d : List E) (x : S) : List E := if x.f0 = 2 then doL first d x.f1 x.f10 else putL first d x.f1 x.e
theorem keepL_len (first : Int) (d : List E) (x : S) : (keepL first d x).length = d.length := by
  unfold keepL
  split
  · exact doL_len _ _ _ _
  · exact putL_len _ _ _ _
theorem keep_has {first : Int} {d : List E} {x : S} (h : keepR first d x = 0) : hasB first d.length x.f1 = true := by
  unfold keepR doR putR at h
  split at h
  · split at h
    · assumption
    · cases h
  · split at h
    · assumption
    · cases h
theorem keep_no {first : Int} {d : List E} {x : S} (h : ¬ keepR first d x = 0) : keepL first d x = d := by
  unfold keepR doR putR at h
  unfold keepL doL putL
  split
  · rename_i h2
    rw [if_pos h2] at h
    split
    · rename_i h3; rw [if_pos h3] at h; exact absurd rfl h
    · rfl
  · rename_i h2
    rw [if_neg h2] at h
    split
    · rename_i h3; rw [if_pos h3.1, if_pos h3.2] at h; exact absurd rfl h
    · rfl
theorem keep_snd (first : Int) (d : List E) (x : S) (id : Int) : (getE first (keepL first d x) id).2 = (getE first d id).2 := by
  unfold getE
  rw [keepL_len]
  split <;> rfl
theorem set_getD {d : List E} {k j : Nat} (x : E) (h : ¬ k = j) : (d.set k x).getD j zE = d.getD j zE := by
  simp [List.getD_eq_getElem?_getD, List.getElem?_set, h]
theorem mod_getD {d : List E} {k j : Nat} (f : E → E) (h : ¬ k = j) : (d.modify k f).getD j zE = d.getD j zE := by
  simp [List.getD_eq_getElem?_getD, List.getElem?_modify, h]
theorem keep_other {first : Int} {d : List E} {x : S} {id : Int} (h : ¬ id = x.f1) : (getE first (keepL first d x) id).1 = (getE first d id).1 := by
  unfold getE
  rw [keepL_len]
  by_cases hh : hasB first d.length id = true
  · obtain ⟨k, hk, rfl⟩ := hasB_yes hh
    rw [if_pos hh, if_pos hh]
    show (keepL first d x).getD _ zE = d.getD _ zE
    rw [show kOf first (first + k) = k by unfold kOf; omega]
    unfold keepL doL putL
    have hne : hasB first d.length x.f1 = true → ¬ kOf first x.f1 = k := fun h2 e => by
      obtain ⟨j, hj, e2⟩ := hasB_yes h2
      rw [e2] at e
      have : j = k := by rw [← e]; unfold kOf; omega
      exact h (by rw [e2, this])
    split
    · split
      · rename_i h3; exact mod_getD _ (hne h3)
      · rfl
    · split
      · rename_i h3; exact set_getD _ (hne h3.1)
      · rfl
  · rw [if_neg hh, if_neg hh]
theorem AsideP.one {g : Nat} {w w' : World} (h : AsideP (fun k => k = g) w w') : Aside g w w' := ⟨h.os, h.tape, h.output, h.size, fun k hk hn => h.block k hk hn⟩
theorem put_r (b : BSh) (first id : Int) (d : List E) (x : E) (w : World) (h : BAt b first d w) (h0 : 0 ≤ first) (hi : Wid id) :
    Calls Try.prog 18 #[.pointer (some ⟨b.g, 0, none⟩), .int .i64 id, .agg (vE x)] w fun e w' => e = .returned (.int .i64 (putR first d id x)) ∧ Row w' b.e (FT eE (putL first d id x) b.T) ∧ Aside b.e w w' := (Put_c b first id d x w h h0 hi).mono fun _ _ q => ⟨q.1, q.2.1.ents, AsideP.one q.2.2⟩
theorem do_r (b : BSh) (first id a : Int) (d : List E) (w : World) (h : BAt b first d w) (h0 : 0 ≤ first) (hi : Wid id) :
    Calls Try.prog 17 #[.pointer (some ⟨b.g, 0, none⟩), .int .i64 id, .int .i64 a] w fun e w' => e = .returned (.int .i64 (doR first d id)) ∧ Row w' b.e (FT eE (doL first d id a) b.T) ∧ Aside b.e w w' := (Do_c b first id a d w h h0 hi).mono fun _ _ q => ⟨q.1, q.2.1.ents, AsideP.one q.2.2⟩
end Go.Proofs.Ytbglgblngfbhbaa.Bk
