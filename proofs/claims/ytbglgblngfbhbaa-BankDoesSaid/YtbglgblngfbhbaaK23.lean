/- The law BankAsked. -/
import Derived.Test.YtbglgblngfbhbaaK22
import Derived.Test.YtbglgblngfbhbaaIAllx6
namespace Go.Proofs.Ytbglgblngfbhbaa.Bk
open Go.RowKit Go.Shelf Go.Proofs.Ytbglgblngfbhbaa.IAll Go.Proofs.YtbglgblngfbhbaaW.PrintWords Go.Proofs.YtbglgblngfbhbaaW.PrintLast Go.Proofs.YtbglgblngfbhbaaW.PrintMore
set_option linter.unusedVariables false
set_option linter.unusedSectionVars false
set_option linter.unusedSimpArgs false
attribute [local go_sem] Oper.semAt_some cell_row frozen_row isRow_setCell_eq rowAt_setCell_same rowAt_setCell_other isRow_alloc_eq rowAt_alloc rowAt_new rowAt_new' isRow_setRow_eq rowAt_setRow_same rowAt_setRow_other isRow_drew rowAt_drew size_setRow_ size_drew_ blk_ptr aggOf_agg offv_ptr below_alloc_e below_setCell_e below_setRow_e below_refl_e below_drew_r isRow_drewN rowAt_drewN below_drewN_e le_add_r asideP_alloc_e asideP_setCell_e asideP_setRow_e asideP_drew_e asideP_drewN_e asideP_refl_e allOne_nil allOne_cons Value.oneCell' addr_at mid_FT vE_size vL_size vQ_size vC_size vS_size vP_size vE_one vL_one vQ_one vC_one vS_one vP_one mid_spl spl_size spl_spl
attribute [local go_sem ↓] loadE storeE loadEm storeEm loadEg storeEg loadEmg storeEmg loadL storeL loadLm storeLm loadQ storeQ loadQm storeQm loadC storeC loadCg storeCg loadS storeS loadSm loadP storeP loadPm loadPg storePg 
set_option maxRecDepth 100000

theorem KeepC.aside1 {F : Nat → Prop} {n g : Nat} {X X' : World} (h : AsideP (fun k => k = g) X X') (hF : F g) : KeepC (CF F n) X X' :=
  ⟨h.size, fun k o hc hk _ => (h.block k (Array.getElem?_eq_some_iff.1 hk).1 (fun e => hc (.inr (by rw [e]; exact hF)))).trans hk⟩
theorem append_block {X w1 : World} {tmp : Obj} {u v' : Value} {k gb : Nat} (hgrow : (X.alloc tmp).grownBy w1 u.ownBlock) (hk : k < X.heap.size) (h1 : ¬ k = gb) (h2 : some k ≠ u.ownBlock) : (w1.setCell ⟨gb, 0, none⟩ v').heap[k]? = X.heap[k]? :=
  (Below.heap_setCell w1 ⟨gb, 0, none⟩ v' k h1).trans ((hgrow.block k (by simp; omega) h2).trans (Below.heap_alloc _ _ _ hk))
theorem rd_eq (l : List Int) (k : Nat) (h : k < l.length) : rd l (k : Int) = l[k] := by
  simp [rd, List.getD_eq_getElem?_getD, List.getElem?_eq_getElem h]
theorem same_l0 (l : List Int) (hl : l.length ≤ 16384) : ∀ m i : Nat, i + m = l.length → crierref01_Same.l0 (m + 1) l l i = some true := by
  intro m
  induction m with
  | zero =>
    intro i hi
    rw [crierref01_Same.l0, if_neg (by omega)]
  | succ m ih =>
    intro i hi
    have e : wrap64 ((i : Int) + 1) = ((i + 1 : Nat) : Int) := (IntWalk.wrap64_in _ (by omega)).trans (by omega)
    rw [crierref01_Same.l0, if_pos (by omega), if_pos (by omega), if_pos (by omega), if_pos rfl, e]
    exact ih (i + 1) (by omega)
theorem same_is (l : List Int) (hl : l.length ≤ 16384) : crierref01_Same.f (l.length + 1) l l = some true := by
  unfold crierref01_Same.f
  rw [if_pos rfl]
  exact same_l0 l hl l.length 0 (by omega)
/-- these numbers are read there -/
def IntsAt (w : World) (p : Option Addr) (l : List Int) : Prop := 0 < l.length → ∃ ob T, p = some ⟨ob, 0, none⟩ ∧ Row w ob (FT eI l T)
theorem IntsAt.kd {w : World} {p : Option Addr} {l : List Int} (h : IntsAt w p l) (hl : l.length ≤ 16384) : Kd.C (Kd.int .i64) w p l.length l := by
  rcases Nat.eq_zero_or_pos l.length with h0 | h0
  · exact ⟨rfl, by omega, fun h => by omega⟩
  · obtain ⟨ob, T, rfl, hr⟩ := h h0
    exact ft_kd (k := Kd.int .i64) (enc := eI) rfl eI_len (fun _ _ => rfl) hr (by omega)
theorem IntsAt.below {w w' : World} {p : Option Addr} {l : List Int} (h : IntsAt w p l) (hb : Below w.heap.size w w') : IntsAt w' p l := fun h0 => by
  obtain ⟨ob, T, e, hr⟩ := h h0
  exact ⟨ob, T, e, hr.below hb hr.lt⟩
theorem same_c (p q : Option Addr) (c c' : Nat) (l : List Int) (w : World) (h1 : IntsAt w p l) (h2 : IntsAt w q l) (hl : l.length ≤ 16384) (hc : l.length ≤ c) (hc' : l.length ≤ c') :
    Calls Try.prog 22 #[.slice p l.length c, .slice q l.length c'] w fun e w' => e = .returned (.bool true) ∧ Below w.heap.size w w' :=
  (crierref01_Same.calls _ p c l q c' l true w (h1.kd hl) hc (h2.kd hl) hc' (same_is l hl)).mono fun _ _ q => ⟨q.1, below_drawn0 q.2⟩
theorem own_at {base n : Nat} {W : World} {v : Value} {l : List Int} (h : W.ownsRow base 3 1 v n (l.map (Value.int .i64))) (hn : l.length = n) : ∃ p cap, v = .slice p n cap ∧ n ≤ cap ∧ IntsAt W p l ∧ (∀ ob, p = some ⟨ob, 0, none⟩ → 0 < n → base ≤ ob) := by
  obtain ⟨p, cap, rfl, hc, hr⟩ := own_ints h hn
  refine ⟨p, cap, rfl, hc, fun h0 => ?_, fun ob e h0 => ?_⟩
  · obtain ⟨ob, T, e, -, hr⟩ := hr (by omega)
    exact ⟨ob, T, e, hr⟩
  · obtain ⟨ob2, T, e2, hb, -⟩ := hr h0
    rw [e] at e2
    cases e2
    exact hb

theorem own_same {W W' : World} {n e s m : Nat} {v : Value} {xs : List Value} (h : W.ownsRow n e s v m xs) (hb : ∀ k, v.ownBlock = some k → W'.heap[k]? = W.heap[k]?) : W'.ownsRow n e s v m xs := by
  refine ⟨h.1, ?_⟩
  rcases h.2 with ⟨rfl, h0⟩ | ⟨g, cap, cur, rfl, hg, hh, hr⟩
  · exact .inl ⟨rfl, h0⟩
  · exact .inr ⟨g, cap, cur, rfl, hg, (hb g rfl).trans hh, hr⟩
theorem own_lt {W : World} {n e s m : Nat} {v : Value} {xs : List Value} (h : W.ownsRow n e s v m xs) (k : Nat) (hk : v.ownBlock = some k) : k < W.heap.size := by
  rcases h.2 with ⟨rfl, h0⟩ | ⟨g, cap, cur, rfl, hg, hh, hr⟩
  · cases hk
  · have e1 : g = k := by simpa [Value.ownBlock] using hk
    subst e1
    exact (Array.getElem?_eq_some_iff.1 hh).1
def IA (gb : Nat) (b : BSh) (first : Int) (n : Nat) (W7 : World) (pre : List (Int × E)) (X : World) : Prop := ∃ u d', Boxed X gb 51 u ∧ X.ownsRow W7.heap.size 3 1 u pre.length (pre.map fun x => Value.int .i64 x.1) ∧ BAt b first d' X ∧ d'.length = n ∧ AsideP (fun k => k = b.e ∨ k = gb) W7 X
end Go.Proofs.Ytbglgblngfbhbaa.Bk
