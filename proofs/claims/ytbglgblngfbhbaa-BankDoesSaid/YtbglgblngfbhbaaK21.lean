/- The law BankOrder. -/
import Derived.Test.YtbglgblngfbhbaaK20
namespace Go.Proofs.Ytbglgblngfbhbaa.Bk
open Go.RowKit Go.Shelf Go.Proofs.Ytbglgblngfbhbaa.IAll Go.Proofs.YtbglgblngfbhbaaW.PrintWords Go.Proofs.YtbglgblngfbhbaaW.PrintLast Go.Proofs.YtbglgblngfbhbaaW.PrintMore
set_option linter.unusedVariables false
set_option linter.unusedSectionVars false
set_option linter.unusedSimpArgs false
attribute [local go_sem] Oper.semAt_some cell_row frozen_row isRow_setCell_eq rowAt_setCell_same rowAt_setCell_other isRow_alloc_eq rowAt_alloc rowAt_new rowAt_new' isRow_setRow_eq rowAt_setRow_same rowAt_setRow_other isRow_drew rowAt_drew size_setRow_ size_drew_ blk_ptr aggOf_agg offv_ptr below_alloc_e below_setCell_e below_setRow_e below_refl_e below_drew_r isRow_drewN rowAt_drewN below_drewN_e le_add_r asideP_alloc_e asideP_setCell_e asideP_setRow_e asideP_drew_e asideP_drewN_e asideP_refl_e allOne_nil allOne_cons Value.oneCell' addr_at mid_FT vE_size vL_size vQ_size vC_size vS_size vP_size vE_one vL_one vQ_one vC_one vS_one vP_one mid_spl spl_size spl_spl vE_5 vE_6 vC_0 vC_1 vC_2 vC_3
attribute [local go_sem ↓] loadE storeE loadEm storeEm loadEg storeEg loadEmg storeEmg loadL storeL loadLm storeLm loadQ storeQ loadQm storeQm loadC storeC loadCg storeCg loadS storeS loadSm loadP storeP loadPm loadPg storePg 
set_option maxRecDepth 100000

theorem mem_allL {d : List E} : ∀ {first : Int} {p : Int × E}, p ∈ allL first d → ∃ j : Nat, d[j]? = some p.2 ∧ p.1 = first + j := by
  induction d with
  | nil => intro f p h; cases h
  | cons x r ih =>
    intro f p h
    rw [allL] at h
    rcases List.mem_cons.1 h with rfl | h
    · exact ⟨0, rfl, by simp⟩
    · obtain ⟨j, h1, h2⟩ := ih h
      exact ⟨j + 1, by simpa using h1, by rw [h2]; omega⟩
theorem allL_nodup (d : List E) : ∀ first : Int, ((allL first d).map (·.1)).Nodup := by
  induction d with
  | nil => intro f; exact List.nodup_nil
  | cons x r ih =>
    intro f
    rw [allL, List.map_cons]
    refine List.nodup_cons.2 ⟨fun h => ?_, ih _⟩
    obtain ⟨p, hp, e⟩ := List.mem_map.1 h
    obtain ⟨j, -, h2⟩ := mem_allL hp
    omega
/-- the best has none ahead of it -/
def IsBest (xs : List (Int × E)) (c : C) : Prop := (xs = [] ∧ c = zC) ∨ ∃ x ∈ xs, c = ⟨x.1, x.2.f6, x.2.f5, true⟩ ∧ ∀ y ∈ xs, bef y.2.f6 y.1 x.2.f6 x.1 = false
theorem best_go (xs : List (Int × E)) : ∀ (pre : List (Int × E)) (c : C), IsBest pre c → IsBest (pre ++ xs) (xs.foldl bst c) := by
  induction xs with
  | nil => intro pre c h; simpa using h
  | cons y r ih =>
    intro pre c h
    rw [List.append_cons, List.foldl_cons]
    refine ih _ _ ?_
    right
    rcases h with ⟨rfl, rfl⟩ | ⟨x, hx, rfl, hm⟩
    · exact ⟨y, by simp, rfl, fun z hz => by
        obtain rfl : z = y := by simpa using hz
        simp [bef]⟩
    · unfold bst
      cases hb : bef y.2.f6 y.1 x.2.f6 x.1 with
      | true =>
        refine ⟨y, by simp, by simp [hb], fun z hz => ?_⟩
        rcases List.mem_append.1 hz with hz | hz
        · have h1 := hm z hz
          rw [← Bool.not_eq_true, bef_iff] at h1 ⊢
          rw [bef_iff] at hb
          omega
        · obtain rfl : z = y := by simpa using hz
          simp [bef]
      | false =>
        refine ⟨x, List.mem_append_left _ hx, by simp [hb], fun z hz => ?_⟩
        rcases List.mem_append.1 hz with hz | hz
        · exact hm z hz
        · obtain rfl : z = y := by simpa using hz
          exact hb
theorem best_is (xs : List (Int × E)) : IsBest xs (best xs) := by
  have := best_go xs [] zC (.inl ⟨rfl, rfl⟩)
  simpa [best] using this
/-- what is sorted: each place's pair, each ahead of the next -/
theorem ord_at {first : Int} {d : List E} {l : List P} (hp : l.Perm (prs (allL first d))) {k : Nat} {x : P} (hk : l[k]? = some x) : ∃ (j : Nat) (y : E), d[j]? = some y ∧ x = ⟨y.f6, first + j⟩ := by
  have hm := hp.mem_iff.1 (List.mem_of_getElem? hk)
  obtain ⟨p, hp2, rfl⟩ := List.mem_map.1 hm
  obtain ⟨j, h1, h2⟩ := mem_allL hp2
  exact ⟨j, p.2, h1, by rw [h2]⟩
theorem ord_next {first : Int} {d : List E} {l : List P} (hp : l.Perm (prs (allL first d))) (hs : SrtP l) {k : Nat} {x y : P} (hk : l[k]? = some x) (hk2 : l[k + 1]? = some y) : bef x.f0 x.f1 y.f0 y.f1 = true := by
  obtain ⟨h1, e1⟩ := List.getElem?_eq_some_iff.1 hk
  obtain ⟨h2, e2⟩ := List.getElem?_eq_some_iff.1 hk2
  have hn : (l.map P.f1).Nodup := by
    have h3 : (l.map P.f1).Perm ((allL first d).map (·.1)) := by
      have := hp.map P.f1
      unfold prs at this
      rwa [List.map_map] at this
    exact h3.nodup_iff.2 (allL_nodup d first)
  have hne : ¬ x.f1 = y.f1 := fun e => by
    have := (List.pairwise_iff_getElem.1 hn) k (k + 1) (by simpa using h1) (by simpa using h2) (by omega)
    rw [List.getElem_map, List.getElem_map, e1, e2] at this
    exact this e
  have hlt := (List.pairwise_iff_getElem.1 hs) k (k + 1) h1 h2 (by omega)
  rw [e1, e2, lt_is, ← Bool.not_eq_true, bef_iff] at hlt
  rw [bef_iff]
  omega
theorem ord_min {first : Int} {d : List E} {l : List P} (hp : l.Perm (prs (allL first d))) (hs : SrtP l) {x : P} (hk : l[0]? = some x) {z : Int × E} (hz : z ∈ allL first d) : bef z.2.f6 z.1 x.f0 x.f1 = false := by
  obtain ⟨h1, e1⟩ := List.getElem?_eq_some_iff.1 hk
  have hm : (⟨z.2.f6, z.1⟩ : P) ∈ l := hp.mem_iff.2 (List.mem_map.2 ⟨z, hz, rfl⟩)
  obtain ⟨i, hi, e2⟩ := List.getElem_of_mem hm
  rcases Nat.eq_zero_or_pos i with h0 | h0
  · subst h0
    rw [e1] at e2
    subst e2
    simp [bef]
  · have := (List.pairwise_iff_getElem.1 hs) 0 i h1 hi h0
    rw [e1, e2, lt_is] at this
    exact this
theorem ord_best {first : Int} {d : List E} {l : List P} (hp : l.Perm (prs (allL first d))) (hs : SrtP l) {j : Nat} {y : E} (hk : l[0]? = some ⟨y.f6, first + j⟩) (hd : d[j]? = some y) : best (allL first d) = ⟨first + j, y.f6, y.f5, true⟩ := by
  have hz : (first + (j : Int), y) ∈ allL first d := by
    rw [allL_at first hd]; simp
  rcases best_is (allL first d) with ⟨h1, -⟩ | ⟨x, hx, h2, h3⟩
  · rw [h1] at hz; cases hz
  · have h4 := h3 _ hz
    have h5 := ord_min hp hs hk hx
    rw [← Bool.not_eq_true, bef_iff] at h4 h5
    simp only at h4 h5
    obtain ⟨i, h6, h7⟩ := mem_allL hx
    have hij : i = j := by omega
    subst hij
    rw [hd] at h6
    obtain rfl := Option.some.inj h6
    rw [h2, h7]
theorem best_flag (xs : List (Int × E)) : (best xs).f3 = decide (0 < xs.length) := by
  rcases best_is xs with ⟨rfl, h⟩ | ⟨x, hx, h, -⟩
  · rw [h]; rfl
  · rw [h]
    have := List.length_pos_of_mem hx
    simp [this]
def eI (x : Int) : List Value := [.int .i64 x]
theorem eI_len (x : Int) : (eI x).length = 1 := rfl
theorem fl_eI (l : List Int) : fl eI l = l.map (Value.int .i64) := by
  induction l with
  | nil => rfl
  | cons x r ih => rw [fl_cons, ih]; rfl
/-- an own row of numbers -/
theorem own_ints {base n : Nat} {W : World} {v : Value} {l : List Int} (h : W.ownsRow base 3 1 v n (l.map (Value.int .i64))) (hn : l.length = n) : ∃ p cap, v = .slice p n cap ∧ n ≤ cap ∧ (0 < n → ∃ ob T, p = some ⟨ob, 0, none⟩ ∧ base ≤ ob ∧ Row W ob (FT eI l T)) := by
  have hcap : ∃ p cap, v = .slice p n cap ∧ n ≤ cap := by
    rcases h.2 with ⟨rfl, h0⟩ | ⟨g, cap, cur, rfl, hg, hh, hc, -⟩
    · exact ⟨none, 0, by rw [h0], by omega⟩
    · exact ⟨_, cap, rfl, hc⟩
  obtain ⟨p, cap, rfl, hc⟩ := hcap
  refine ⟨p, cap, rfl, hc, fun h0 => ?_⟩
  rw [← fl_eI] at h
  obtain ⟨ob, c, T, e, hb, hr⟩ := own_ft eI_len h hn h0
  injection e with e1 e2 e3
  exact ⟨ob, T, e1, hb, hr⟩
theorem ints_at {l : List Int} {T : List Value} {k : Nat} {x : Int} (h : l[k]? = some x) : (FT eI l T)[k]? = some (.int .i64 x) := by
  have := FT_at (T := T) eI_len h (show 0 < 1 by decide)
  rwa [show k * 1 + 0 = k by omega] at this
theorem all_b (b : BSh) (first : Int) (d : List E) (w : World) (h : BAt b first d w) (h0 : 0 ≤ first) (h1 : first + d.length ≤ 16384) :
    Calls Try.prog 26 #[.pointer (some ⟨b.g, 0, none⟩)] w fun e w' => ∃ v, e = .returned v ∧ (∀ F : Nat → Prop, (∀ k, F k → k < w.heap.size ∧ k ≠ b.g) → ItV F v (allL first d) w') ∧ Below w.heap.size w w' :=
  All_c b.g b.e b.c d.length first d b.T w rfl h0 h1 h.row h.ents
end Go.Proofs.Ytbglgblngfbhbaa.Bk
