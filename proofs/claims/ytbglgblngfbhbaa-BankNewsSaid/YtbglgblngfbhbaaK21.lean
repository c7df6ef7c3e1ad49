/- The law BankOrder. -/
import Derived.Test.YtbglgblngfbhbaaK20
namespace Go.Proofs.Ytbglgblngfbhbaa.Bk
open Go.RowKit Go.Shelf Go.Proofs.Ytbglgblngfbhbaa.IAll Go.Proofs.YtbglgblngfbhbaaW.PrintWords Go.Proofs.YtbglgblngfbhbaaW.PrintLast Go.Proofs.YtbglgblngfbhbaaW.PrintMore
set_option linter.unusedVariables false
set_option linter.unusedSectionVars false
set_option linter.unusedSimpArgs false
attribute [local go_sem] Oper.semAt_some cell_row frozen_row isRow_setCell_eq rowAt_setCell_same rowAt_setCell_other isRow_alloc_eq rowAt_alloc rowAt_new rowAt_new' isRow_setRow_eq rowAt_setRow_same rowAt_setRow_other isRow_drew rowAt_drew size_setRow_ size_drew_ blk_ptr aggOf_agg offv_ptr below_alloc_e below_setCell_e below_setRow_e below_refl_e below_drew_r isRow_drewN rowAt_drewN below_drewN_e le_add_r asideP_alloc_e asideP_setCell_e asideP_setRow_e asideP_drew_e asideP_drewN_e asideP_refl_e allOne_nil allOne_cons Value.oneCell' addr_at mid_FT vE_size vL_size vQ_size vC_size vS_size vP_size vE_one vL_one vQ_one vC_one vS_one vP_one mid_spl spl_size spl_spl vE_5 vE_6 vC_0 vC_1 vC_2 vC_3
attribute [local go_sem ↓] loadE storeE loadEm storeEm loadEg storeEg loadEmg storeEmg loadL storeL loadLm storeLm loadQ storeQ loadQm storeQm loadC storeC loadCg storeCg loadS storeS loadSm loadP storeP loadPm loadPg storePg 
set_option maxRecDepth 100000

theorem mem_allL {d : List E} : ∀ {first : Int} {p : Int × E}, p ∈ allL first d → ∃ j : Nat, d[j]? = some p.2 ∧ p.1 = first + j := by
  induction d with
  | nil => intro f p h; cases h
  | cons x r ih =>
    intro f p h
    rw [allL] at h
    rcases List.mem_cons.1 h with rfl | h
    · exact ⟨0, rfl, by simp⟩
    · obtain ⟨j, h1, h2⟩ := ih h
      exact ⟨j + 1, by simpa using h1, by rw [h2]; omega⟩
theorem allL_nodup (d : List E) : ∀ first : Int, ((allL first d).map (·.1)).Nodup := by
  induction d with
  | nil => intro f; exact List.nodup_nil
  | cons x r ih =>
    intro f
    rw [allL, List.map_cons]
    refine List.nodup_cons.2 ⟨fun h => ?_, ih _⟩
    obtain ⟨p, hp, e⟩ := List.mem_map.1 h
    obtain ⟨j, -, h2⟩ := mem_allL hp
    omega
/-- the best has none ahead of it -/
def IsBest (xs : List (Int × E)) (c : C) : Prop := (xs = [] ∧ c = zC) ∨ ∃ x ∈ xs, c = ⟨x.1, x.2.f6, x.2.f5, true⟩ ∧ ∀ y ∈ xs, bef y.2.f6 y.1 x.2.f6 x.1 = false
theorem best_go (xs : List (Int × E)) : ∀ (pre : List (Int × E)) (c : C), IsBest pre c → IsBest (pre ++ xs) (xs.foldl bst c) := by
  induction xs with
  | nil => intro pre c h; simpa using h
  | cons y r ih =>
    intro pre c h
    rw [List.append_cons, List.foldl_cons]
    refine ih _ _ ?_
    right
    rcases h with ⟨rfl, rfl⟩ | ⟨x, hx, rfl, hm⟩
    · exact ⟨y, by simp, rfl, fun z hz => by
        obtain rfl : z = y := by simpa using hz
        simp [bef]⟩
    · unfold bst
      cases hb : bef y.2.f6 y.1 x.2.f6 x.1 with
      | true =>
        refine ⟨y, by simp, by simp [hb], fun z hz => ?_⟩
        rcases List.mem_append.1 hz with hz | hz
        · have h1 := hm z hz
          rw [← Bool.not_eq_true, bef_iff] at h1 ⊢
          rw [bef_iff] at hb
          omega
        · obtain rfl : z = y := by simpa using hz
          simp [bef]
      | false =>
        refine ⟨x, List.mem_append_left _ hx, by simp [hb], fun z hz => ?_⟩
        rcases List.mem_append.1 hz with hz | hz
        · exact hm z hz
        · obtain rfl : z = y := by simpa using hz
          exact hb
theorem best_is (xs : List (Int × E)) : IsBest xs (best xs) := by
  have := best_go xs [] zC (.inl ⟨rfl, rfl⟩)
  simpa [best] using this
/-- what is sorted: each place's pair, each ahead of the next -/
theorem ord_at {first : Int} {d : List E} {l : List P} (hp : l.Perm (prs (allL first d))) {k : Nat} {x : P} (hk : l[k]? = some x) : ∃ (j : Nat) (y : E), d[j]? = some y ∧ x = ⟨y.f6, first + j⟩ := by
  have hm := hp.mem_iff.1 (List.mem_of_getElem? hk)
  obtain ⟨p, hp2, rfl⟩ := List.mem_map.1 hm
  obtain ⟨j, h1, h2⟩ := mem_allL hp2
  exact ⟨j, p.2, h1, by rw [h2]⟩
theorem ord_next {first : Int} {d : List E} {l : List P} (hp : l.Perm (prs (allL first d))) (hs : SrtP l) {k : Nat} {x y : P} (hk : l[k]? = some x) (hk2 : l[k + 1]? = some y) : bef x.f0 x.f1 y.f0 y.f1 = true := by
  obtain ⟨h1, e1⟩ := List.getElem?_eq_some_iff.1 hk
  obtain ⟨h2, e2⟩ := List.getElem?_eq_some_iff.1 hk2
  have hn : (l.map P.f1).Nodup := by
    have h3 : (l.map P.f1).Perm ((allL first d).map (·.1)) := by
      have := hp.map P.f1
      unfold prs at this
      rwa [List.map_map] at this
    exact h3.nodup_iff.2 (allL_nodup d first)
  have hne : ¬ x.f1 = y.f1 := fun e => by
    have := (List.pairwise_iff_getElem.1 hn) k (k + 1) (by simpa using h1) (by simpa using h2) (by omega)
    rw [List.getElem_map, List.getElem_map, e1, e2] at this
    exact this e
  have hlt := (List.pairwise_iff_getElem.1 hs) k (k + 1) h1 h2 (by omega)
  rw [e1, e2, lt_is, ← Bool.not_eq_true, bef_iff] at hlt
  rw [bef_iff]
  omega
theorem ord_min {first : Int} {d : List E} {l : List P} (hp : l.Perm (prs (allL first d))) (hs : SrtP l) {x : P} (hk : l[0]? = some x) {z : Int × E} (hz : z ∈ allL first d) : bef z.2.f6 z.1 x.f0 x.f1 = false := by
  obtain ⟨h1, e1⟩ := List.getElem?_eq_some_iff.1 hk
  have hm : (⟨z.2.f6, z.1⟩ : P) ∈ l := hp.mem_iff.2 (List.mem_map.2 ⟨z, hz, rfl⟩)
  obtain ⟨i, hi, e2⟩ := List.getElem_of_mem hm
  rcases Nat.eq_zero_or_pos i with h0 | h0
  · subst h0
    rw [e1] at e2
    subst e2
    simp [bef]
  · have := (List.pairwise_iff_getElem.1 hs) 0 i h1 hi h0
    rw [e1, e2, lt_is] at this
    exact this
theorem ord_best {first : Int} {d : List E} {l : List P} (hp : l.Perm (prs (allL first d))) (hs : SrtP l) {j : Nat} {y : E} (hk : l[0]? = some ⟨y.f6, first + j⟩) (hd : d[j]? = some y) : best (allL first d) = ⟨first + j, y.f6, y.f5, true⟩ := by
  have hz : (first + (j : Int), y) ∈ allL first d := by
    rw [allL_at first hd]; simp
  rcases best_is (allL first d) with ⟨h1, -⟩ | ⟨x, hx, h2, h3⟩
  · rw [h1] at hz; cases hz
  · have h4 := h3 _ hz
    have h5 := ord_min hp hs hk hx
    rw [← Bool.not_eq_true, bef_iff] at h4 h5
    simp only at h4 h5
    obtain ⟨i, h6, h7⟩ := mem_allL hx
    have hij : i = j := by omega
    subst hij
    rw [hd] at h6
    obtain rfl := Option.some.inj h6
    rw [h2, h7]
theorem best_flag (xs : List (Int × E)) : (best xs).f3 = decide (0 < xs.length) := by
  rcases best_is xs with ⟨rfl, h⟩ | ⟨x, hx, h, -⟩
  · rw [h]; rfl
  · rw [h]
    have := List.length_pos_of_mem hx
    simp [this]
def eI (x : Int) : List Value := [.int .i64 x]
theorem eI_len (x : Int) : (eI x).length = 1 := rfl
theorem fl_eI (l : List Int) : fl eI l = l.map (Value.int .i64) := by
  induction l with
  | nil => rfl
  | cons x r ih => rw [fl_cons, ih]; rfl
/-- an own row of numbers -/
theorem own_ints {base n : Nat} {W : World} {v : Value} {l : List Int} (h : W.ownsRow base 3 1 v n (l.map (Value.int .i64))) (hn : l.length = n) : ∃ p cap, v = .slice p n cap ∧ n ≤ cap ∧ (0 < n → ∃ ob T, p = some ⟨ob, 0, none⟩ ∧ base ≤ ob ∧ Row W ob (FT eI l T)) := by
  have hcap : ∃ p cap, v = .slice p n cap ∧ n ≤ cap := by
    rcases h.2 with ⟨rfl, h0⟩ | ⟨g, cap, cur, rfl, hg, hh, hc, -⟩
    · exact ⟨none, 0, by rw [h0], by omega⟩
    · exact ⟨_, cap, rfl, hc⟩
  obtain ⟨p, cap, rfl, hc⟩ := hcap
  refine ⟨p, cap, rfl, hc, fun h0 => ?_⟩
  rw [← fl_eI] at h
  obtain ⟨ob, c, T, e, hb, hr⟩ := own_ft eI_len h hn h0
  injection e with e1 e2 e3
  exact ⟨ob, T, e1, hb, hr⟩
theorem ints_at {l : List Int} {T : List Value} {k : Nat} {x : Int} (h : l[k]? = some x) : (FT eI l T)[k]? = some (.int .i64 x) := by
  have := FT_at (T := T) eI_len h (show 0 < 1 by decide)
  rwa [show k * 1 + 0 = k by omega] at this
theorem all_b (b : BSh) (first : Int) (d : List E) (w : World) (h : BAt b first d w) (h0 : 0 ≤ first) (h1 : first + d.length ≤ 16384) :
    Calls Try.prog 26 #[.pointer (some ⟨b.g, 0, none⟩)] w fun e w' => ∃ v, e = .returned v ∧ (∀ F : Nat → Prop, (∀ k, F k → k < w.heap.size ∧ k ≠ b.g) → ItV F v (allL first d) w') ∧ Below w.heap.size w w' :=
  All_c b.g b.e b.c d.length first d b.T w rfl h0 h1 h.row h.ents
set_option maxHeartbeats 4000000 in
theorem order_law (first m : Int) (A : Option Addr) (c : Nat) (xs : List S) (w : World) (h0 : 0 ≤ first) (h1 : first ≤ 255) (h2 : 0 ≤ m) (h3 : m ≤ 255) (hC : Kd.C kS w A xs.length xs) (hbig : xs.length ≤ 9223372036854775807) (hW : ∀ x ∈ xs, Wid x.f1) :
    Calls Try.prog 7 #[.int .u8 first, .int .u8 m, .slice A xs.length c] w fun e w' => e = .returned (.bool true) ∧ Below w.heap.size w w' := by
  go_enter Try.func7, Try.ntmps7
  go_wp2_with fail
  refine (awake_c w).mono ?_
  rintro e v1 ⟨rfl, hB1⟩
  have HPl := Lib.hid (played_c first m A c xs v1 h0 h1 h2 h3 (Kd.C_below hC hB1) hbig hW)
  have hn := nOf_lt m
  clear hC
  go_wp2_with fail
  refine HPl.out.mono ?_
  rintro e v2 ⟨b, rfl, hb2, p1, p2, hB2'⟩
  have hB2 : Below w.heap.size w v2 := hB1.trans (hB2'.mono hB1.size)
  have hlen : (runA first (d0 m) xs).length = nOf m := by rw [runA_len, d0_len]
  have hle : (runA first (d0 m) xs).length ≤ 63 := by omega
  generalize runA first (d0 m) xs = d at *
  clear HPl hlen hn hB1 hB2' p1 p2
  have HB2 := Lib.hid hb2
  clear hb2
  go_wp2_with fail
  refine (all_b b first d _ HB2.out h0 (by omega)).mono ?_
  rintro e v3 ⟨it, rfl, hit, hB3'⟩
  have hb3 := HB2.out.below hB3'
  have hB3 : Below w.heap.size w v3 := hB2.trans (hB3'.mono hB2.size)
  have HI := Lib.hid (hit (fun _ => False) (fun _ h => h.elim))
  have HB3 := Lib.hid hb3
  clear hit hb3 hB2 hB3' HB2
  go_wp2_with fail
  refine (Sorted_c _ _ _ _ HI.out (by rw [allL_length]; omega)).mono ?_
  rintro e v4 ⟨u, l, rfl, hp, hs, hown, hB4'⟩
  rw [allL_length] at hown
  have hll : l.length = d.length := by rw [hp.length_eq]; simp [prs, allL_length]
  obtain ⟨p, cap, rfl, hcap, hob⟩ := own_ints (l := l.map P.f1) (by rw [List.map_map]; exact hown) (by simpa using hll)
  have hb4 := HB3.out.below hB4'
  have hB4 : Below w.heap.size w v4 := hB3.trans (hB4'.mono hB3.size)
  have HP := Lib.hid (And.intro hp hs)
  have HB4 := Lib.hid hb4
  have HO := Lib.hid hob
  clear hp hs hown hob hb4 hB4' hB3 HB3 HI
  go_wp2_with fail
  refine (all_b b first d _ HB4.out h0 (by omega)).mono ?_
  rintro e v5 ⟨it2, rfl, hit, hB5'⟩
  have hb5 := HB4.out.below hB5'
  have hB5 : Below w.heap.size w v5 := hB4.trans (hB5'.mono hB4.size)
  have HI := Lib.hid (hit (fun _ => False) (fun _ h => h.elim))
  have hob5 : 0 < d.length → ∃ ob T, p = some ⟨ob, 0, none⟩ ∧ Row v5 ob (FT eI (l.map P.f1) T) := fun hz => by
    obtain ⟨ob, T, e, -, hr⟩ := HO.out hz
    exact ⟨ob, T, e, hr.below hB5' hr.lt⟩
  have HB5 := Lib.hid hb5
  have HO5 := Lib.hid hob5
  clear hit hb5 hB4 hB5' HB4 HO hob5
  go_wp2_with fail
  refine (Best_c _ _ _ _ HI.out).mono ?_
  rintro e v6 ⟨rfl, hB6'⟩
  have hb6 := HB5.out.below hB6'
  have hB6 : Below w.heap.size w v6 := hB5.trans (hB6'.mono hB5.size)
  have hob6 : 0 < d.length → ∃ ob T, p = some ⟨ob, 0, none⟩ ∧ Row v6 ob (FT eI (l.map P.f1) T) := fun hz => by
    obtain ⟨ob, T, e, hr⟩ := HO5.out hz
    exact ⟨ob, T, e, hr.below hB6' hr.lt⟩
  have hbf : (best (allL first d)).f3 = decide (0 < d.length) := by rw [best_flag, allL_length]
  have hbo : ∀ (j : Nat) (y : E), l[0]? = some ⟨y.f6, first + j⟩ → d[j]? = some y → best (allL first d) = ⟨first + j, y.f6, y.f5, true⟩ := fun j y h h' => ord_best HP.out.1 HP.out.2 h h'
  generalize best (allL first d) = q at *
  have HQ := Lib.hid hbo
  have HO6 := Lib.hid hob6
  have HB6 := Lib.hid hb6
  clear hbo hob6 hb6 hB5 hB6' HB5 HO5 HI
  go_wp2_with fail
  refine wp_named (fun W_ => Row W_ v6.heap.size (vC q) ∧ Below v6.heap.size v6 W_) (by refine ⟨⟨by go_simp, by go_simp⟩, by go_simp⟩) ?_
  rintro W9 ⟨hq9, hb9⟩
  have hB9 := HB6.out.below hb9
  have hBw : Below w.heap.size w W9 := hB6.trans (hb9.mono hB6.size)
  have hob9 : 0 < d.length → ∃ ob T, p = some ⟨ob, 0, none⟩ ∧ Row W9 ob (FT eI (l.map P.f1) T) := fun hz => by
    obtain ⟨ob, T, e, hr⟩ := HO6.out hz
    exact ⟨ob, T, e, hr.below hb9 hr.lt⟩
  have HB9 := Lib.hid hB9
  have HO9 := Lib.hid hob9
  have HQ9 := Lib.hid hq9
  clear hB9 hob9 hq9 hB6 hb9 HB6 HO6
  generalize v6.heap.size = cb at *
  have HBF := Lib.hid hbf
  clear hbf
  go_loopw [11] (fun q wr => ∃ k : Nat, k ≤ d.length ∧ q = .int .i64 k ∧ Below W9.heap.size W9 wr) (fun q _ => d.length - (intOf q).toNat)
  case atStart => exact ⟨0, by omega, rfl, Below.refl _ _⟩
  case round =>
    obtain ⟨k, hk, rfl, hX⟩ := hrel
    have hBr := HB9.out.below hX
    have hqr := HQ9.out.below hX HQ9.out.lt
    have hzz := hX.size
    obtain ⟨⟨BG, BG'⟩, ⟨BE, BE'⟩, hne⟩ := hBr
    by_cases hlt : k < d.length
    · have k1 : (k : Int) < d.length := by omega
      have k0 : (0 : Int) ≤ k := by omega
      have k2 : decide ((k : Int) < d.length) = true := decide_eq_true k1
      have w3 : IntKind.i64.wrap ((k : Int) + 1) = (k : Int) + 1 := IntWalk.i64_in _ (by omega)
      obtain ⟨ob, T, rfl, hr9⟩ := HO9.out (by omega)
      obtain ⟨O1, O1'⟩ := hr9.below hX hr9.lt
      have hget : l[k]? = some l[k] := List.getElem?_eq_getElem (by omega)
      obtain ⟨j, y, hdj, hlk⟩ := ord_at HP.out.1 hget
      rw [hlk] at hget
      clear hlk
      have hci := ints_at (l := l.map P.f1) (T := T) (k := k) (x := first + j) (by simp [hget])
      have hjl : j < d.length := (List.getElem?_eq_some_iff.1 hdj).1
      have HG := Lib.hid (fun (W : World) (h : Row W b.g #[.int .i64 first, .slice (some ⟨b.e, 0, none⟩) d.length b.c]) (h' : Row W b.e (FT eE d b.T)) => Get_hit b.g b.e b.c d.length first d b.T j y W rfl h h' hdj h0 (wid_small (by omega) (by omega)))
      obtain ⟨C1, C1'⟩ := hqr
      have HJ := Lib.hid (And.intro hdj hget)
      clear hdj hget
      have hB_0 : Below wr.heap.size wr wr := Below.refl _ _
      go_wp2_with fail
      refine (HG.out _ ⟨by go_simp, by go_simp⟩ ⟨by go_simp, by go_simp⟩).mono ?_
      rintro e v1 ⟨rfl, hb1⟩
      obtain ⟨G_1, G_1'⟩ : Row v1 b.g #[.int .i64 first, .slice (some ⟨b.e, 0, none⟩) d.length b.c] := Row.step (by go_simp) (by go_simp) hb1
      obtain ⟨En_1, En_1'⟩ : Row v1 b.e (FT eE d b.T) := Row.step (by go_simp) (by go_simp) hb1
      obtain ⟨Cc_1, Cc_1'⟩ : Row v1 cb (vC q) := Row.step (by go_simp) (by go_simp) hb1
      obtain ⟨Oo_1, Oo_1'⟩ : Row v1 ob (FT eI (l.map P.f1) T) := Row.step (by go_simp) (by go_simp) hb1
      have hB_1 : Below wr.heap.size wr v1 := bk (by go_simp) (by first | (go_simp; done) | (go_simp; omega) | exact Below.size (by assumption)) hb1
      clear BG BG' BE BE' C1 C1' O1 O1' hB_0 hb1
      have hz_1 : wr.heap.size ≤ v1.heap.size := hB_1.size
      have hl_G_1 := isRow.lt G_1
      have ne_G_1_0 : ¬ b.g = v1.heap.size := by omega
      have en_G_1_0 : ¬ v1.heap.size = b.g := by omega
      have hl_En_1 := isRow.lt En_1
      have ne_En_1_0 : ¬ b.e = v1.heap.size := by omega
      have en_En_1_0 : ¬ v1.heap.size = b.e := by omega
      have hl_Cc_1 := isRow.lt Cc_1
      have ne_Cc_1_0 : ¬ cb = v1.heap.size := by omega
      have en_Cc_1_0 : ¬ v1.heap.size = cb := by omega
      have hl_Oo_1 := isRow.lt Oo_1
      have ne_Oo_1_0 : ¬ ob = v1.heap.size := by omega
      have en_Oo_1_0 : ¬ v1.heap.size = ob := by omega
      have hW1 : Below W9.heap.size W9 v1 := hX.trans (hB_1.mono hzz)
      have hW1s := hW1.size
      have ne_G_Y : ¬ b.g = v1.heap.size := by omega
      have en_G_Y : ¬ v1.heap.size = b.g := by omega
      have ne_En_Y : ¬ b.e = v1.heap.size := by omega
      have en_En_Y : ¬ v1.heap.size = b.e := by omega
      have ne_Cc_Y : ¬ cb = v1.heap.size := by omega
      have en_Cc_Y : ¬ v1.heap.size = cb := by omega
      have ne_Oo_Y : ¬ ob = v1.heap.size := by omega
      have en_Oo_Y : ¬ v1.heap.size = ob := by omega
      rcases Nat.eq_zero_or_pos k with hz | hz
      · subst hz
        obtain rfl := HQ.out j y HJ.out.2 HJ.out.1
        go_wp2
        go_quiet (fail)
        go_wp2
        go_roundw
        case rel => exact ⟨1, by omega, congrArg (Value.int .i64) (by omega), by go_simp⟩
        case measure => simp [intOf]; omega
      · obtain ⟨kk, rfl⟩ : ∃ kk, k = kk + 1 := ⟨k - 1, by omega⟩
        have kz : (((kk + 1 : Nat) : Int) == 0) = false := by simp; omega
        have w5 : IntKind.i64.wrap (((kk + 1 : Nat) : Int) - 1) = (kk : Int) := (IntWalk.i64_in _ (by omega)).trans (by omega)
        have kk0 : (0 : Int) ≤ (kk : Int) := by omega
        have kk1 : (kk : Int) < d.length := by omega
        have hget2 : l[kk]? = some l[kk] := List.getElem?_eq_getElem (by omega)
        obtain ⟨j2, y2, hdj2, hlk2⟩ := ord_at HP.out.1 hget2
        rw [hlk2] at hget2
        clear hlk2
        have hci2 := ints_at (l := l.map P.f1) (T := T) (k := kk) (x := first + j2) (by simp [hget2])
        have hjl2 : j2 < d.length := (List.getElem?_eq_some_iff.1 hdj2).1
        have hbef := ord_next HP.out.1 HP.out.2 hget2 HJ.out.2
        have HG2 := Lib.hid (fun (W : World) (h : Row W b.g #[.int .i64 first, .slice (some ⟨b.e, 0, none⟩) d.length b.c]) (h' : Row W b.e (FT eE d b.T)) => Get_hit b.g b.e b.c d.length first d b.T j2 y2 W rfl h h' hdj2 h0 (wid_small (by omega) (by omega)))
        rw [bef_iff] at hbef
        simp only at hbef
        have u1 : decide (y.f6 < y2.f6) = false := decide_eq_false (by omega)
        have HBE := Lib.hid hbef
        clear hbef hdj2 hget2 hz
        have kin : ((kk + 1 : Nat) : Int).toNat = kk + 1 := by omega
        have KE := Lib.hid (show ((kk + 1 : Nat) : Int) + 1 = ((kk + 2 : Nat) : Int) by omega)
        generalize ((kk + 1 : Nat) : Int) = ki at *
        go_wp2_with fail
        refine (HG2.out _ ⟨by go_simp, by go_simp⟩ ⟨by go_simp, by go_simp⟩).mono ?_
        rintro e v2 ⟨rfl, hb2⟩
        obtain ⟨G_2, G_2'⟩ : Row v2 b.g #[.int .i64 first, .slice (some ⟨b.e, 0, none⟩) d.length b.c] := Row.step (by go_simp) (by go_simp) hb2
        obtain ⟨En_2, En_2'⟩ : Row v2 b.e (FT eE d b.T) := Row.step (by go_simp) (by go_simp) hb2
        obtain ⟨Cc_2, Cc_2'⟩ : Row v2 cb (vC q) := Row.step (by go_simp) (by go_simp) hb2
        obtain ⟨Oo_2, Oo_2'⟩ : Row v2 ob (FT eI (l.map P.f1) T) := Row.step (by go_simp) (by go_simp) hb2
        obtain ⟨Y_2, Y_2'⟩ : Row v2 v1.heap.size (vE y) := Row.step (by go_simp) (by go_simp) hb2
        have hB_2 : Below wr.heap.size wr v2 := bk (by go_simp) (by first | (go_simp; done) | (go_simp; omega) | exact Below.size (by assumption)) hb2
        clear G_1 G_1' En_1 En_1' Cc_1 Cc_1' Oo_1 Oo_1' hB_1 hb2
        have hz_2 : wr.heap.size ≤ v2.heap.size := hB_2.size
        have hl_G_2 := isRow.lt G_2
        have ne_G_2_0 : ¬ b.g = v2.heap.size := by omega
        have en_G_2_0 : ¬ v2.heap.size = b.g := by omega
        have hl_En_2 := isRow.lt En_2
        have ne_En_2_0 : ¬ b.e = v2.heap.size := by omega
        have en_En_2_0 : ¬ v2.heap.size = b.e := by omega
        have hl_Cc_2 := isRow.lt Cc_2
        have ne_Cc_2_0 : ¬ cb = v2.heap.size := by omega
        have en_Cc_2_0 : ¬ v2.heap.size = cb := by omega
        have hl_Oo_2 := isRow.lt Oo_2
        have ne_Oo_2_0 : ¬ ob = v2.heap.size := by omega
        have en_Oo_2_0 : ¬ v2.heap.size = ob := by omega
        have hl_Y_2 := isRow.lt Y_2
        have ne_Y_2_0 : ¬ v1.heap.size = v2.heap.size := by omega
        have en_Y_2_0 : ¬ v2.heap.size = v1.heap.size := by omega
        have hW2 : Below W9.heap.size W9 v2 := hX.trans (hB_2.mono hzz)
        have hW2s := hW2.size
        have ne_G_Y2 : ¬ b.g = v2.heap.size := by omega
        have en_G_Y2 : ¬ v2.heap.size = b.g := by omega
        have ne_En_Y2 : ¬ b.e = v2.heap.size := by omega
        have en_En_Y2 : ¬ v2.heap.size = b.e := by omega
        have ne_Cc_Y2 : ¬ cb = v2.heap.size := by omega
        have en_Cc_Y2 : ¬ v2.heap.size = cb := by omega
        have ne_Oo_Y2 : ¬ ob = v2.heap.size := by omega
        have en_Oo_Y2 : ¬ v2.heap.size = ob := by omega
        have ne_Y_Y2 : ¬ v1.heap.size = v2.heap.size := by omega
        have en_Y_Y2 : ¬ v2.heap.size = v1.heap.size := by omega
        by_cases he : y2.f6 = y.f6
        · have u2 : (y2.f6 == y.f6) = true := by simpa using he
          have u3 : decide (first + (j : Int) ≤ first + (j2 : Int)) = false := decide_eq_false (by have := HBE.out; omega)
          have u4 : decide ((j : Int) ≤ (j2 : Int)) = false := decide_eq_false (by have := HBE.out; omega)
          have u5 : decide (j ≤ j2) = false := decide_eq_false (by have := HBE.out; omega)
          clear he
          go_wp2
          go_quiet (fail)
          go_wp2
          go_roundw
          case rel => exact ⟨kk + 2, by omega, congrArg (Value.int .i64) KE.out, by go_simp⟩
          case measure => simp [intOf]; omega
        · have u2 : (y2.f6 == y.f6) = false := by simpa using he
          clear he
          go_wp2
          go_quiet (fail)
          go_wp2
          go_roundw
          case rel => exact ⟨kk + 2, by omega, congrArg (Value.int .i64) KE.out, by go_simp⟩
          case measure => simp [intOf]; omega
    · obtain rfl : k = d.length := by omega
      have k2 : decide ((d.length : Int) < d.length) = false := decide_eq_false (by omega)
      obtain ⟨C1, C1'⟩ := hqr
      have hB_0 : Below wr.heap.size wr wr := Below.refl _ _
      have ub : (q.f3 == decide (0 < (d.length : Int))) = true := by rw [HBF.out]; simp
      have HAl := Lib.hid (fun (W : World) (h : BAt b first d W) => all_b b first d W h h0 (by omega))
      go_wp2_with fail
      refine (HAl.out _ ⟨⟨by go_simp, by go_simp⟩, ⟨by go_simp, by go_simp⟩, hne⟩).mono ?_
      rintro e v1 ⟨it3, rfl, hit3, hb1⟩
      obtain ⟨G_1, G_1'⟩ : Row v1 b.g #[.int .i64 first, .slice (some ⟨b.e, 0, none⟩) d.length b.c] := Row.step (by go_simp) (by go_simp) hb1
      obtain ⟨En_1, En_1'⟩ : Row v1 b.e (FT eE d b.T) := Row.step (by go_simp) (by go_simp) hb1
      obtain ⟨Cc_1, Cc_1'⟩ : Row v1 cb (vC q) := Row.step (by go_simp) (by go_simp) hb1
      have hB_1 : Below wr.heap.size wr v1 := bk (by go_simp) (by first | (go_simp; done) | (go_simp; omega) | exact Below.size (by assumption)) hb1
      clear BG BG' BE BE' C1 C1' hB_0 hb1
      have hz_1 : wr.heap.size ≤ v1.heap.size := hB_1.size
      have hl_G_1 := isRow.lt G_1
      have ne_G_1_0 : ¬ b.g = v1.heap.size := by omega
      have en_G_1_0 : ¬ v1.heap.size = b.g := by omega
      have hl_En_1 := isRow.lt En_1
      have ne_En_1_0 : ¬ b.e = v1.heap.size := by omega
      have en_En_1_0 : ¬ v1.heap.size = b.e := by omega
      have hl_Cc_1 := isRow.lt Cc_1
      have ne_Cc_1_0 : ¬ cb = v1.heap.size := by omega
      have en_Cc_1_0 : ¬ v1.heap.size = cb := by omega
      have HI := Lib.hid (hit3 (fun _ => False) (fun _ h => h.elim))
      clear hit3
      go_wp2_with fail
      refine (Count_c _ _ _ _ HI.out (by rw [allL_length]; omega)).mono ?_
      rw [allL_length]
      rintro e v2 ⟨rfl, hb2⟩
      have hW2 : Below w.heap.size w v2 := hBw.trans ((hX.trans ((hB_1.trans (hb2.mono hB_1.size)).mono hzz)).mono hBw.size)
      clear hB_1 hb2 HI
      go_wp2
      go_ret
      exact ⟨rfl, hW2⟩
end Go.Proofs.Ytbglgblngfbhbaa.Bk
