/- Along any acts: what each bank answers. -/
import Derived.Test.YtbglgblngfbhbaaK30
namespace Go.Proofs.Ytbglgblngfbhbaa.Bk
open Go.RowKit Go.Shelf Go.Proofs.Ytbglgblngfbhbaa.IAll Go.Proofs.YtbglgblngfbhbaaW.PrintWords Go.Proofs.YtbglgblngfbhbaaW.PrintLast Go.Proofs.YtbglgblngfbhbaaW.PrintMore
set_option linter.unusedVariables false
set_option linter.unusedSectionVars false
set_option linter.unusedSimpArgs false
attribute [local go_sem] Oper.semAt_some cell_row frozen_row isRow_setCell_eq rowAt_setCell_same rowAt_setCell_other isRow_alloc_eq rowAt_alloc rowAt_new rowAt_new' isRow_setRow_eq rowAt_setRow_same rowAt_setRow_other isRow_drew rowAt_drew size_setRow_ size_drew_ blk_ptr aggOf_agg offv_ptr below_alloc_e below_setCell_e below_setRow_e below_refl_e below_drew_r isRow_drewN rowAt_drewN below_drewN_e le_add_r asideP_alloc_e asideP_setCell_e asideP_setRow_e asideP_drew_e asideP_drewN_e asideP_refl_e allOne_nil allOne_cons Value.oneCell' addr_at mid_FT vE_size vL_size vQ_size vC_size vS_size vP_size vE_one vL_one vQ_one vC_one vS_one vP_one mid_spl spl_size spl_spl mid_vE vE_ext4 vE_ext7 vE_ext8 vC_0 vC_1 vC_2 vC_3
attribute [local go_sem ↓] loadE storeE loadEm storeEm loadEg storeEg loadEmg storeEmg loadL storeL loadLm storeLm loadQ storeQ loadQm storeQm loadC storeC loadCg storeCg loadS storeS loadSm loadP storeP loadPm loadPg storePg 
set_option maxRecDepth 100000
attribute [local go_sem high] eqE eqC eqL

theorem vS_1' (x : S) : (vS x)[1]? = some (.int .i64 x.f1) := rfl
attribute [local go_sem] vS_1'
theorem IntsAt.low {W W' : World} {p : Option Addr} {l : List Int} (h : IntsAt W p l) (hb : Below W.heap.size W W') : IntsAt W' p l := fun h0 => by
  obtain ⟨ob, T, e, hr⟩ := h h0
  exact ⟨ob, T, e, hr.below hb hr.lt⟩
structure LI (first : Int) (n B0 : Nat) (r : RSh) (g0 g1 : Bool) (w : World) (b : BSh) (d : List E) (W : World) : Prop where
  hB : BAt b first d W
  hR : RAt r first d W
  ap : Apart b r n
  bg : B0 ≤ b.g
  be : B0 ≤ b.e
  gd : goodD d
  ln : d.length = n
  gr : Row W w.heap.size #[.bool g0, .bool g1]
  bl : Below w.heap.size w W
section
variable {first : Int} {n B0 : Nat} {r : RSh} {g0 g1 : Bool} {w : World} {b : BSh} {d : List E} {W W' : World}
theorem LI.low (h : LI first n B0 r g0 g1 w b d W) (hb : Below W.heap.size W W') : LI first n B0 r g0 g1 w b d W' :=
  ⟨h.hB.below hb, h.hR.below hb, h.ap, h.bg, h.be, h.gd, h.ln, h.gr.below hb h.gr.lt, h.bl.trans (hb.mono h.bl.size)⟩
theorem LI.drew (h : LI first n B0 r g0 g1 w b d W) : LI first n B0 r g0 g1 w b d W.drew := h.low (below_drew0 (Below.refl _ _))
theorem LI.act {x : S} (h : LI first n B0 r g0 g1 w b d W) (hgb : w.heap.size < B0) (hr : 0 < n → B0 ≤ r.l ∧ B0 ≤ r.x) (hB : BAt b first (actL first d x) W') (hR : RAt r first (actL first d x) W') (hA : AsideP (Ch b r d.length) W W') : LI first n B0 r g0 g1 w b (actL first d x) W' := by
  have hl := h.ln
  have hne : ∀ k, Ch b r d.length k → B0 ≤ k := fun k hk => by
    rcases hk with rfl | ⟨hp, rfl | rfl⟩
    · exact h.be
    · exact (hr (by omega)).1
    · exact (hr (by omega)).2
  exact ⟨hB, hR, h.ap, h.bg, h.be, good_actL h.gd first x, by rw [actL_len]; exact hl, hA.row h.gr (fun hk => by have := hne _ hk; omega), hA.below h.bl (fun k hk => by have := hne k hk; omega) h.bl.size⟩
theorem LI.swap {b2 : BSh} {W1 W2 : World} (h1 : LI first n B0 r g0 g1 w b d W1) (h2 : LI first n B0 r g0 g1 w b d W2) (hgb : w.heap.size < B0) (hB : BAt b2 first d W2) (l1 : W1.heap.size ≤ b2.g) (l2 : W1.heap.size ≤ b2.e) (hA : AsideP (fun k => k = b.e) W2 W') : LI first n B0 r g0 g1 w b2 d W' := by
  have hln := h1.ln
  have e1 := h1.hB.el
  have e2 := h1.hB.gl
  have e3 := h1.hR.gl
  have e4 := h1.bg
  have e5 := h1.be
  have e6 : 0 < n → r.l < W1.heap.size ∧ r.x < W1.heap.size := fun hp => ⟨(h1.hR.pos (by omega)).2.2.1.lt, (h1.hR.pos (by omega)).2.2.2.1.lt⟩
  refine ⟨hB.aside hA (by omega) (by omega), h2.hR.aside hA (fun e => h1.ap.eg e.symm) (fun hp => ⟨fun e => (h1.ap.pos (by omega)).2.2.1 e.symm, fun e => (h1.ap.pos (by omega)).2.2.2 e.symm⟩), ⟨by omega, by omega, fun hp => ?_⟩, by omega, by omega, h1.gd, hln, hA.row h2.gr (by omega), hA.below h2.bl (fun k hk => by omega) h2.bl.size⟩
  have := e6 hp
  exact ⟨by omega, by omega, by omega, by omega⟩
end
set_option maxHeartbeats 40000000 in
theorem bank_law (first m : Int) (A : Option Addr) (c : Nat) (xs : List S) (g0 g1 : Bool) (w : World) (h0 : 0 ≤ first) (h1 : first ≤ 255) (h2 : 0 ≤ m) (h3 : m ≤ 255) (hC : Kd.C kS w A xs.length xs) (hbig : xs.length ≤ 9223372036854775807) (hW : ∀ x ∈ xs, Wid x.f1) :
    Calls Try.prog 8 #[.int .u8 first, .int .u8 m, .slice A xs.length c, .agg #[.bool g0, .bool g1]] w fun e w' => e = .returned (.bool true) ∧ Below w.heap.size w w' := by
  go_enter Try.func8, Try.ntmps8
  go_wp2_with fail
  have hz0 : Row (w.alloc (.cells #[.bool g0, .bool g1] 50)) w.heap.size #[.bool g0, .bool g1] := Row.new _ _ _
  have hZ : Below w.heap.size w (w.alloc (.cells #[.bool g0, .bool g1] 50)) := (Below.refl _ w).alloc (Nat.le_refl _) _
  refine (awake_c _).mono ?_
  rintro e v1 ⟨rfl, hB1'⟩
  have hr1 := hz0.below hB1' hz0.lt
  have hB1 : Below w.heap.size w v1 := hZ.trans (hB1'.mono hZ.size)
  have hgb := hr1.lt
  clear hz0 hZ hB1'
  go_wp2_with fail
  refine (both_c first m v1 h0 h1 h2 h3).mono ?_
  rintro e v2 ⟨b, r, rfl, hB, hR, hAp, ⟨p1, p2, p3, p4⟩, hb⟩
  have hn := nOf_lt m
  have HLI := Lib.hid (show LI first (nOf m) v1.heap.size r g0 g1 w b (d0 m) v2 from ⟨hB, hR, hAp, p1, p2, good_d0 m, d0_len m, hr1.below hb hr1.lt, hB1.trans (hb.mono hB1.size)⟩)
  have HC := Lib.hid hC
  have HP := Lib.hid p4
  have HW := Lib.hid hW
  clear hB hR hAp p1 p2 p4 hr1 hb hB1 hC hW
  go_wp2
  go_loopw [10, 12] (fun p q wr => ∃ (k : Nat) (b : BSh) (d : List E), k ≤ xs.length ∧ p = .pointer (some ⟨b.g, 0, none⟩) ∧ q = .int .i64 k ∧ LI first (nOf m) v1.heap.size r g0 g1 w b d wr) (fun _ q _ => xs.length - (intOf q).toNat)
  case atStart => exact ⟨0, b, d0 m, by omega, rfl, rfl, HLI.out⟩
  case round =>
    clear HLI
    obtain ⟨k, b, d, hk, rfl, rfl, hL⟩ := hrel
    have hln := hL.ln
    by_cases hlt : k < xs.length
    · have k1 : (k : Int) < xs.length := by omega
      have k0 : (0 : Int) ≤ k := by omega
      have k2 : decide ((k : Int) < xs.length) = true := decide_eq_true k1
      have w3 : IntKind.i64.wrap ((k : Int) + 1) = (k : Int) + 1 := IntWalk.i64_in _ (by omega)
      have hget : xs[k]? = some xs[k] := List.getElem?_eq_getElem hlt
      have hWk := HW.out xs[k] (List.getElem_mem hlt)
      generalize xs[k] = x at hget hWk
      obtain ⟨ad, rfl, hcell⟩ := at_S HC.out hget
      have hcl : ∀ j u, (eS x)[j]? = some u → wr.cell? (ad.add (k * 11 + j)) = some u := fun j u hu => by
        have h9 := hcell j u hu
        exact (hL.bl.cell (World.block_lt_of_cell? w _ h9)).trans h9
      have c0 : wr.cell? (ad.add (k * 11)) = some (.int .i64 x.f0) := hcl 0 _ rfl
      have c1 := (by rw [← add_field _ _ 1 (by omega)]; exact hcl 1 _ rfl : wr.cell? ⟨(ad.add (k * 11)).block, (ad.add (k * 11)).off + 1, none⟩ = some (.int .i64 x.f1))
      have c2 := (by rw [← add_field _ _ 2 (by omega)]; exact hcl 2 _ rfl : wr.cell? ⟨(ad.add (k * 11)).block, (ad.add (k * 11)).off + 2, none⟩ = some (.bool x.f2))
      have c3 := (by rw [← add_field _ _ 3 (by omega)]; exact hcl 3 _ rfl : wr.cell? ⟨(ad.add (k * 11)).block, (ad.add (k * 11)).off + 3, none⟩ = some (.bool x.f3))
      have c4 := (by rw [← add_field _ _ 4 (by omega)]; exact hcl 4 _ rfl : wr.cell? ⟨(ad.add (k * 11)).block, (ad.add (k * 11)).off + 4, none⟩ = some (.bool x.f4))
      have c5 := (by rw [← add_field _ _ 5 (by omega)]; exact hcl 5 _ rfl : wr.cell? ⟨(ad.add (k * 11)).block, (ad.add (k * 11)).off + 5, none⟩ = some (.bool x.f5))
      have c6 := (by rw [← add_field _ _ 6 (by omega)]; exact hcl 6 _ rfl : wr.cell? ⟨(ad.add (k * 11)).block, (ad.add (k * 11)).off + 6, none⟩ = some (.bool x.f6))
      have c7 := (by rw [← add_field _ _ 7 (by omega)]; exact hcl 7 _ rfl : wr.cell? ⟨(ad.add (k * 11)).block, (ad.add (k * 11)).off + 7, none⟩ = some (.int .i64 x.f7))
      have c8 := (by rw [← add_field _ _ 8 (by omega)]; exact hcl 8 _ rfl : wr.cell? ⟨(ad.add (k * 11)).block, (ad.add (k * 11)).off + 8, none⟩ = some (.int .i64 x.f8))
      have c9 := (by rw [← add_field _ _ 9 (by omega)]; exact hcl 9 _ rfl : wr.cell? ⟨(ad.add (k * 11)).block, (ad.add (k * 11)).off + 9, none⟩ = some (.string x.f9))
      have c10 := (by rw [← add_field _ _ 10 (by omega)]; exact hcl 10 _ rfl : wr.cell? ⟨(ad.add (k * 11)).block, (ad.add (k * 11)).off + 10, none⟩ = some (.int .i64 x.f10))
      clear hcl hcell hget
      by_cases hx4 : x.f0 = 4
      · have u4 : (x.f0 == 4) = true := by simpa using hx4
        clear hx4
        go_wp2_with fail
        refine calls_named (fun W_ => LI first (nOf m) v1.heap.size r g0 g1 w b d W_ ∧ Row W_ wr.heap.size (vS x)) ⟨hL.low (below_setRow ((Below.refl _ wr).alloc (Nat.le_refl _) _) (Nat.le_refl _) _), Row.setRow isRow_new⟩ ?_
        rintro W1 ⟨hL1, hX1⟩
        refine (Copy_c b.g b.e b.c d.length first d b.T W1 rfl (by omega) hL1.hB.row hL1.hB.ents hL1.hB.ne).mono ?_
        rintro e W2 ⟨g', el', c', T', rfl, hg', he', hne', rg, re, hb2⟩
        have hL2 := hL1.low hb2
        have hX2 := hX1.below hb2 hX1.lt
        obtain ⟨b2, rfl, hB2, hb2g, hb2e⟩ : ∃ b2 : BSh, b2.g = g' ∧ BAt b2 first d W2 ∧ W1.heap.size ≤ b2.g ∧ W1.heap.size ≤ b2.e := ⟨⟨g', el', c', T'⟩, rfl, ⟨rg, re, hne'⟩, hg', he'⟩
        have hX2' := hX2
        obtain ⟨Y1, Y1'⟩ := hX2'
        clear rg re hne' hg' he' hb2
        go_wp2_with fail
        refine (Do_c b first x.f1 3 d W2 hL2.hB h0 hWk).mono ?_
        rintro e W3 ⟨rfl, hB3, hA3⟩
        clear Y1 Y1'
        go_wp2_with fail
        refine (Reset_b b first (doL first d x.f1 3) W3 hB3 (by rw [doL_len]; omega)).mono ?_
        rintro e W4 ⟨rfl, -, hA4⟩
        have hA34 := hA3.trans hA4
        have hxe : ¬ wr.heap.size = b.e := by have := hL.hB.el; omega
        have hL4 := hL1.swap hL2 hgb hB2 hb2g hb2e hA34
        have hX4 := hA34.row hX2 hxe
        have hxbb : ¬ wr.heap.size = b2.e := by have := hX1.lt; omega
        clear hA3 hA4 hA34 hB3 hL2 hX2 hX1 hL1 hB2 hxe
        go_wp2_with fail
        refine wp_named (fun W_ => LI first (nOf m) v1.heap.size r g0 g1 w b2 d W_ ∧ Row W_ wr.heap.size (vS x)) ⟨hL4, hX4⟩ ?_
        rintro Wt ⟨hLt, hXt⟩
        have hgd := hLt.gd
        have hap : Apart b2 r d.length := by rw [hln]; exact hLt.ap
        obtain ⟨d3, hd3⟩ : ∃ d3, actL first d x = d3 := ⟨_, rfl⟩
        have hl3 : d3.length = nOf m := by rw [← hd3, actL_len]; exact hln
        have HD := does_c b2 r first d x _ hLt.hB.drew hLt.hR.drew hap h0 (by omega) hWk
        rw [hd3] at HD
        have HD := Lib.hid HD
        have HAct := Lib.hid (fun (W' : World) (hB : BAt b2 first d3 W') (hR : RAt r first d3 W') (hA : AsideP (Ch b2 r d.length) Wt.drew W') => (by subst hd3; exact hLt.drew.act hgb HP.out hB hR hA : LI first (nOf m) v1.heap.size r g0 g1 w b2 d3 W'))
        have HH := Lib.hid (fun (W : World) (h : BAt b2 first d3 W) => Has_b b2 first x.f1 d3 W h h0 hWk)
        have HT := Lib.hid (fun (W : World) (h : RAt r first d3 W) => at_c r.g r.c r.c' d3.length r.A r.A' first x.f1 W h.row h0 (by omega))
        generalize hhz : hasB first d3.length x.f1 = hz at HH HT
        generalize hat : (if hz = true then x.f1 - first else -1) = at_ at HT
        have q2 : decide (0 ≤ at_) = hz := by
          cases hz
          · simp at hat; subst hat; rfl
          · simp at hat; subst hat; obtain ⟨j, -, e⟩ := hasB_yes hhz; exact decide_eq_true (by omega)
        have hxb : ∀ j, Ch b2 r d.length j → ¬ wr.heap.size = j := fun j hj e => by
          rcases hj with rfl | ⟨hp, rfl | rfl⟩
          · exact hxbb e
          · have := (hL.hR.pos hp).2.2.1.lt; omega
          · have := (hL.hR.pos hp).2.2.2.1.lt; omega
        have HXb := Lib.hid hxb
        clear hhz hat hxb hap hd3 hgd hxbb hL
        refine wp_region_held_drew (S := (fun w' => Row w' wr.heap.size (vS x))) (by kernel_rfl) hXt (fun hHeld => ?_)
        refine tk 0 ⟨some 55, .move (.tmp 10), 23, "law.go:105", #[], none⟩ ?_ ?_ ?_
        rotate_left
        · (intro _ _; go_simp; try with_reducible rfl)
        try simp only [Act.put, List.setIfInBounds_toArray, List.set_cons_zero, List.set_cons_succ, q2, bne_self_eq_false]
        refine tk 1 ⟨some 56, .move (.tmp 11), 27, "law.go:105", #[], none⟩ ?_ ?_ ?_
        rotate_left
        · (intro _ _; go_simp; try with_reducible rfl)
        try simp only [Act.put, List.setIfInBounds_toArray, List.set_cons_zero, List.set_cons_succ, q2, bne_self_eq_false]
        refine tk 2 ⟨some 57, .load 45 (.tmp 13), 45, "law.go:105", #[], none⟩ ?_ ?_ ?_
        rotate_left
        · (intro w_ hS_; (try dsimp only at hS_); obtain ⟨s1, s1'⟩ := hS_; go_simp; try with_reducible rfl)
        try simp only [Act.put, List.setIfInBounds_toArray, List.set_cons_zero, List.set_cons_succ, q2, bne_self_eq_false]
        refine wpAnyH_ready (rs := [3]) (by kernel_rfl) (by simp) ?_
        refine (AllReadyH.cons (o := ⟨some 58, .call ⟨.value (.func 30), #[.tmp 55, .tmp 56, .tmp 57], #[23, 27, 45]⟩, 4, "law.go:105", #[⟨0, .data⟩, ⟨1, .data⟩, ⟨2, .data⟩], none⟩) rfl (fun K hK => ?_) AllReadyH.nil)
        go_simp
        refine HD.out.mono ?_
        rintro e u3 ⟨rfl, hB3, hR3, hA3⟩
        have hL3 := HAct.out u3 hB3 hR3 hA3
        have hX3 := hA3.row hHeld (fun h => HXb.out _ h rfl)
        clear hB3 hR3 hA3
        refine hK.out _ _ hX3 (fun hHeld => ?_)
        clear hX3
        clear hK K
        try simp only [Act.put, List.setIfInBounds_toArray, List.set_cons_zero, List.set_cons_succ, q2, bne_self_eq_false]
        refine tk 4 ⟨some 59, .unOp .not 4 (.tmp 58), 4, "law.go:105", #[⟨3, .data⟩], none⟩ ?_ ?_ ?_
        rotate_left
        · (intro _ _; go_simp; try with_reducible rfl)
        try simp only [Act.put, List.setIfInBounds_toArray, List.set_cons_zero, List.set_cons_succ, q2, bne_self_eq_false]
        refine tk 5 ⟨some 60, .move (.tmp 59), 4, "law.go:105", #[⟨4, .data⟩, ⟨3, .chain⟩], none⟩ ?_ ?_ ?_
        rotate_left
        · (intro _ _; go_simp; try with_reducible rfl)
        try simp only [Act.put, List.setIfInBounds_toArray, List.set_cons_zero, List.set_cons_succ, q2, bne_self_eq_false]
        refine tk 6 ⟨some 61, .move (.tmp 10), 23, "law.go:105", #[⟨5, .guard⟩], some (5, false)⟩ ?_ ?_ ?_
        rotate_left
        · (intro _ _; go_simp; try with_reducible rfl)
        try simp only [Act.put, List.setIfInBounds_toArray, List.set_cons_zero, List.set_cons_succ, q2, bne_self_eq_false]
        refine tk 7 ⟨some 62, .move (.tmp 11), 27, "law.go:105", #[⟨5, .guard⟩], some (5, false)⟩ ?_ ?_ ?_
        rotate_left
        · (intro _ _; go_simp; try with_reducible rfl)
        try simp only [Act.put, List.setIfInBounds_toArray, List.set_cons_zero, List.set_cons_succ, q2, bne_self_eq_false]
        refine wpAnyH_ready (rs := [8]) (by kernel_rfl) (by simp) ?_
        refine (AllReadyH.cons (o := ⟨some 63, .call ⟨.value (.func 13), #[.tmp 61, .tmp 62], #[23, 27]⟩, 4, "law.go:105", #[⟨6, .data⟩, ⟨7, .data⟩, ⟨5, .chain⟩, ⟨5, .guard⟩], some (5, false)⟩) rfl (fun K hK => ?_) AllReadyH.nil)
        go_simp
        refine (alike_c b2 r first d3 _ hL3.hB hL3.hR h0 (by omega)).mono ?_
        rintro e u8 ⟨rfl, hb_⟩
        have hL8 := hL3.low hb_
        have hX_ := hHeld.below hb_ hHeld.lt
        clear hb_ hL3
        refine hK.out _ _ hX_ (fun hHeld => ?_)
        clear hX_
        clear hK K
        try simp only [Act.put, List.setIfInBounds_toArray, List.set_cons_zero, List.set_cons_succ, q2, bne_self_eq_false]
        refine tk 9 ⟨some 64, .unOp .not 4 (.tmp 63), 4, "law.go:105", #[⟨8, .data⟩, ⟨5, .guard⟩], some (5, false)⟩ ?_ ?_ ?_
        rotate_left
        · (intro _ _; go_simp; try with_reducible rfl)
        try simp only [Act.put, List.setIfInBounds_toArray, List.set_cons_zero, List.set_cons_succ, q2, bne_self_eq_false]
        refine tk 10 ⟨some 65, .pick (.tmp 60) (.const (.bool true)) (.tmp 64), 4, "law.go:105", #[⟨5, .data⟩, ⟨9, .data⟩], none⟩ ?_ ?_ ?_
        rotate_left
        · (intro _ _; go_simp; try with_reducible rfl)
        try simp only [Act.put, List.setIfInBounds_toArray, List.set_cons_zero, List.set_cons_succ, q2, bne_self_eq_false]
        refine tk 11 ⟨some 66, .move (.tmp 65), 4, "law.go:105", #[⟨10, .data⟩, ⟨8, .chain⟩], none⟩ ?_ ?_ ?_
        rotate_left
        · (intro _ _; go_simp; try with_reducible rfl)
        try simp only [Act.put, List.setIfInBounds_toArray, List.set_cons_zero, List.set_cons_succ, q2, bne_self_eq_false]
        refine tk 12 ⟨some 67, .move (.tmp 10), 23, "law.go:105", #[⟨11, .guard⟩], some (11, false)⟩ ?_ ?_ ?_
        rotate_left
        · (intro _ _; go_simp; try with_reducible rfl)
        try simp only [Act.put, List.setIfInBounds_toArray, List.set_cons_zero, List.set_cons_succ, q2, bne_self_eq_false]
        refine tk 13 ⟨some 68, .fieldAddr 45 (.tmp 13) 1, 0, "law.go:105", #[⟨11, .guard⟩], some (11, false)⟩ ?_ ?_ ?_
        rotate_left
        · (intro _ _; go_simp; try with_reducible rfl)
        try simp only [Act.put, List.setIfInBounds_toArray, List.set_cons_zero, List.set_cons_succ, q2, bne_self_eq_false]
        refine tk 14 ⟨some 69, .load 3 (.tmp 68), 3, "law.go:105", #[⟨13, .data⟩, ⟨11, .guard⟩], some (11, false)⟩ ?_ ?_ ?_
        rotate_left
        · (intro w_ hS_; (try dsimp only at hS_); obtain ⟨s1, s1'⟩ := hS_; go_simp; try with_reducible rfl)
        try simp only [Act.put, List.setIfInBounds_toArray, List.set_cons_zero, List.set_cons_succ, q2, bne_self_eq_false]
        refine tk 16 ⟨some 71, .move (.tmp 11), 27, "law.go:105", #[⟨11, .guard⟩], some (11, false)⟩ ?_ ?_ ?_
        rotate_left
        · (intro _ _; go_simp; try with_reducible rfl)
        try simp only [Act.put, List.setIfInBounds_toArray, List.set_cons_zero, List.set_cons_succ, q2, bne_self_eq_false]
        refine tk 17 ⟨some 72, .fieldAddr 45 (.tmp 13) 1, 0, "law.go:105", #[⟨11, .guard⟩], some (11, false)⟩ ?_ ?_ ?_
        rotate_left
        · (intro _ _; go_simp; try with_reducible rfl)
        try simp only [Act.put, List.setIfInBounds_toArray, List.set_cons_zero, List.set_cons_succ, q2, bne_self_eq_false]
        refine tk 18 ⟨some 73, .load 3 (.tmp 72), 3, "law.go:105", #[⟨17, .data⟩, ⟨11, .guard⟩], some (11, false)⟩ ?_ ?_ ?_
        rotate_left
        · (intro w_ hS_; (try dsimp only at hS_); obtain ⟨s1, s1'⟩ := hS_; go_simp; try with_reducible rfl)
        try simp only [Act.put, List.setIfInBounds_toArray, List.set_cons_zero, List.set_cons_succ, q2, bne_self_eq_false]
        refine wpAnyH_ready (rs := [15]) (by kernel_rfl) (by simp) ?_
        refine (AllReadyH.cons (o := ⟨some 70, .call ⟨.value (.func 14), #[.tmp 67, .tmp 69], #[23, 3]⟩, 4, "law.go:105", #[⟨12, .data⟩, ⟨14, .data⟩, ⟨11, .chain⟩, ⟨11, .guard⟩], some (11, false)⟩) rfl (fun K hK => ?_) AllReadyH.nil)
        go_simp
        refine (HH.out _ hL8.hB).mono ?_
        rintro e u15 ⟨rfl, hb_⟩
        have hL15 := hL8.low hb_
        have hX_ := hHeld.below hb_ hHeld.lt
        clear hb_ hL8
        refine hK.out _ _ hX_ (fun hHeld => ?_)
        clear hX_
        clear hK K
        try simp only [Act.put, List.setIfInBounds_toArray, List.set_cons_zero, List.set_cons_succ, q2, bne_self_eq_false]
        refine wpAnyH_ready (rs := [19]) (by kernel_rfl) (by simp) ?_
        refine (AllReadyH.cons (o := ⟨some 74, .call ⟨.value (.func 15), #[.tmp 71, .tmp 73], #[27, 3]⟩, 3, "law.go:105", #[⟨16, .data⟩, ⟨18, .data⟩, ⟨15, .chain⟩, ⟨11, .guard⟩], some (11, false)⟩) rfl (fun K hK => ?_) AllReadyH.nil)
        go_simp
        refine (HT.out _ hL15.hR).mono ?_
        rintro e u19 ⟨rfl, hb_⟩
        have hL19 := hL15.low hb_
        have hX_ := hHeld.below hb_ hHeld.lt
        clear hb_ hL15
        refine hK.out _ _ hX_ (fun hHeld => ?_)
        clear hX_
        clear hK K
        try simp only [Act.put, List.setIfInBounds_toArray, List.set_cons_zero, List.set_cons_succ, q2, bne_self_eq_false]
        refine tk 20 ⟨some 75, .binOp .geq 3 (.tmp 74) (.const (.int .i64 0)) 3, 4, "law.go:105", #[⟨19, .data⟩, ⟨11, .guard⟩], some (11, false)⟩ ?_ ?_ ?_
        rotate_left
        · (intro _ _; go_simp; try with_reducible rfl)
        try simp only [Act.put, List.setIfInBounds_toArray, List.set_cons_zero, List.set_cons_succ, q2, bne_self_eq_false]
        refine tk 21 ⟨some 76, .binOp .neq 4 (.tmp 70) (.tmp 75) 4, 4, "law.go:105", #[⟨15, .data⟩, ⟨20, .data⟩, ⟨11, .guard⟩], some (11, false)⟩ ?_ ?_ ?_
        rotate_left
        · (intro _ _; go_simp; try with_reducible rfl)
        try simp only [Act.put, List.setIfInBounds_toArray, List.set_cons_zero, List.set_cons_succ, q2, bne_self_eq_false]
        refine tk 22 ⟨some 77, .pick (.tmp 66) (.const (.bool true)) (.tmp 76), 4, "law.go:105", #[⟨11, .data⟩, ⟨21, .data⟩], none⟩ ?_ ?_ ?_
        rotate_left
        · (intro _ _; go_simp; try with_reducible rfl)
        try simp only [Act.put, List.setIfInBounds_toArray, List.set_cons_zero, List.set_cons_succ, q2, bne_self_eq_false]
        refine wpAnyH_done (by kernel_rfl) ?_ _
        (try dsimp only at hHeld)
        clear hHeld HD HAct HH HT HXb q2 hLt hXt c0 c1 c2 c3 c4 c5 c6 c7 c8 c9 c10
        have hll : (rdyL g0 g1 (allL first d3)).length ≤ d3.length := rdy_len g0 g1 first d3
        obtain ⟨LL, hLL⟩ : ∃ LL, rdyL g0 g1 (allL first d3) = LL := ⟨_, rfl⟩
        rw [hLL] at hll
        have hmem : ∀ p ∈ LL, p ∈ allL first d3 := by rw [← hLL]; exact rdy_mem
        have hnod : (LL.map (·.1)).Nodup := by rw [← hLL]; exact rdy_nodup g0 g1 first d3
        have hml : (LL.map (·.1)).length = LL.length := List.length_map ..
        have HRb := Lib.hid (fun (W : World) (h : LI first (nOf m) v1.heap.size r g0 g1 w b2 d3 W) => (by have := ready_b b2 g0 g1 first d3 W h.hB h0 (by omega) h.gd; rw [hLL] at this; exact this : Calls Try.prog 20 #[.pointer (some ⟨b2.g, 0, none⟩), .agg #[.bool g0, .bool g1]] W fun e w' => ∃ v, e = .returned v ∧ (∀ F : Nat → Prop, (∀ k, F k → k < W.heap.size ∧ k ≠ b2.g) → ItV F v LL w') ∧ Below W.heap.size W w'))
        have hRr := rReady_c r g0 g1 first d3 u19 hL19.hR h0 (by omega) (good_grp hL19.gd)
        rw [hLL] at hRr
        have HRr := Lib.hid hRr
        clear hRr hLL
        have HK := Lib.hid (And.intro hmem hnod)
        clear hmem hnod
        obtain ⟨Q, Q'⟩ := hL19.gr
        go_wp2_with fail
        refine HRr.out.mono ?_
        rintro e y1 ⟨ur, rfl, hur0, hb⟩
        have hur1 : y1.ownsRow (u19.heap.size + 1) 3 1 ur LL.length ((LL.map (·.1)).map (Value.int .i64)) := by rw [List.map_map]; exact hur0
        obtain ⟨pr, cr, rfl, hcr, hir1, -⟩ := own_at (l := LL.map (·.1)) hur1 hml
        have hL1 := hL19.low hb
        clear hb hL19 Q Q' hur0 HRr
        obtain ⟨Q, Q'⟩ := hL1.gr
        go_wp2_with fail
        refine (HRb.out y1 hL1).mono ?_
        rintro e y2 ⟨it, rfl, hit, hb⟩
        have HI := Lib.hid (hit (fun _ => False) (fun _ h => h.elim))
        clear hit
        have hL2 := hL1.low hb
        have hir2 := hir1.low hb
        have hur2 := own_low hur1 hb
        clear hb hL1 hir1 hur1 Q Q'
        obtain ⟨Q, Q'⟩ := hL2.gr
        go_wp2_with fail
        refine (ids_c _ _ _ _ HI.out (by omega)).mono ?_
        rintro e y3 ⟨ui, rfl, hui, hb⟩
        obtain ⟨pi, ci, rfl, hci, hii, -⟩ := own_at (l := LL.map (·.1)) (by rw [List.map_map]; exact hui) hml
        clear hui HI
        have hL3 := hL2.low hb
        have hir3 := hir2.low hb
        have hur3 := own_low hur2 hb
        clear hb hL2 hir2 hur2 Q Q'
        obtain ⟨Q, Q'⟩ := hL3.gr
        have hsame := same_c pi pr ci cr (LL.map (·.1)) y3 hii hir3 (by omega) (by omega) (by omega)
        rw [hml] at hsame
        have HSame := Lib.hid hsame
        clear hsame hii
        go_wp2_with fail
        refine (HSame.out).mono ?_
        rintro e y4 ⟨rfl, hb⟩
        clear HSame
        have hL4 := hL3.low hb
        have hir4 := hir3.low hb
        have hur4 := own_low hur3 hb
        clear hb hL3 hir3 hur3 Q Q'
        obtain ⟨Q, Q'⟩ := hL4.gr
        go_wp2_with fail
        refine (HRb.out y4 hL4).mono ?_
        rintro e y5 ⟨it, rfl, hit, hb⟩
        have HI := Lib.hid (hit (fun _ => False) (fun _ h => h.elim))
        clear hit
        have hL5 := hL4.low hb
        have hir5 := hir4.low hb
        have hur5 := own_low hur4 hb
        clear hb hL4 hir4 hur4 Q Q'
        obtain ⟨Q, Q'⟩ := hL5.gr
        go_wp2_with fail
        refine (Best_c _ _ _ _ HI.out).mono ?_
        rintro e y6 ⟨rfl, hb⟩
        clear HI
        have hL6 := hL5.low hb
        have hir6 := hir5.low hb
        have hur6 := own_low hur5 hb
        clear hb hL5 hir5 hur5 Q Q'
        obtain ⟨Q, Q'⟩ := hL6.gr
        go_wp2_with fail
        refine (rBest_c r first d3 LL pr cr y6 hL6.hR h0 (by omega) hir6 (by omega) HK.out.1).mono ?_
        rintro e y7 ⟨rfl, hb⟩
        have hL7 := hL6.low hb
        have hir7 := hir6.low hb
        have hur7 := own_low hur6 hb
        clear hb hL6 hir6 hur6 Q Q'
        obtain ⟨Q, Q'⟩ := hL7.gr
        go_wp2_with fail
        refine (HRb.out y7 hL7).mono ?_
        rintro e y8 ⟨it, rfl, hit, hb⟩
        have HI := Lib.hid (hit (fun _ => False) (fun _ h => h.elim))
        clear hit
        have hL8 := hL7.low hb
        have hir8 := hir7.low hb
        have hur8 := own_low hur7 hb
        clear hb hL7 hir7 hur7 Q Q'
        obtain ⟨Q, Q'⟩ := hL8.gr
        go_wp2_with fail
        refine (Count_c _ _ _ _ HI.out (by omega)).mono ?_
        rintro e y9 ⟨rfl, hb⟩
        clear HI
        have hL9 := hL8.low hb
        have hir9 := hir8.low hb
        have hur9 := own_low hur8 hb
        clear hb hL8 hir8 hur8 Q Q'
        obtain ⟨Q, Q'⟩ := hL9.gr
        go_wp2_with fail
        refine (HRb.out y9 hL9).mono ?_
        rintro e y10 ⟨it, rfl, hit, hb⟩
        have HI := Lib.hid (hit (fun _ => False) (fun _ h => h.elim))
        clear hit
        have hL10 := hL9.low hb
        have hir10 := hir9.low hb
        have hur10 := own_low hur9 hb
        clear hb hL9 hir9 hur9 Q Q'
        obtain ⟨Q, Q'⟩ := hL10.gr
        go_wp2_with fail
        refine (Sorted_c _ _ _ _ HI.out (by omega)).mono ?_
        rintro e y11 ⟨us, l, rfl, hperm, hsrt, hus, hb⟩
        clear HI
        have hL11 := hL10.low hb
        have hir11 := hir10.low hb
        have hur11 := own_low hur10 hb
        clear hb hL10 hir10 hur10 Q Q'
        obtain ⟨Q, Q'⟩ := hL11.gr
        have HUs := Lib.hid (And.intro hperm (And.intro hsrt hus))
        clear hperm hsrt hus
        go_wp2_with fail
        refine (rSorted_c r first d3 LL (.slice pr LL.length cr) _ y11 hL11.hR h0 (by omega) hur11 (by omega) HK.out.1).mono ?_
        rintro e y12 ⟨ut, ids, rfl, hsel, hut, hb⟩
        have hids := sel_srt hsel l HUs.out.1 HUs.out.2.1 HK.out.2
        subst hids
        have hl2 : (l.map P.f1).length = LL.length := by have := HUs.out.1.length_eq; simpa [prs] using this
        obtain ⟨ps_, cs_, rfl, hcs, his, -⟩ := own_at (l := l.map P.f1) (by rw [List.map_map]; exact own_low HUs.out.2.2 hb) hl2
        rw [hl2] at hut
        obtain ⟨pt, ct, rfl, hct, hit, -⟩ := own_at (l := l.map P.f1) hut hl2
        have hsame := same_c ps_ pt cs_ ct (l.map P.f1) y12 his hit (by omega) (by omega) (by omega)
        rw [hl2] at hsame
        have HSame := Lib.hid hsame
        clear hsame his hit hut hsel
        have hL12 := hL11.low hb
        have hir12 := hir11.low hb
        have hur12 := own_low hur11 hb
        clear hb hL11 hir11 hur11 Q Q'
        obtain ⟨Q, Q'⟩ := hL12.gr
        go_wp2_with fail
        refine (HSame.out).mono ?_
        rintro e y13 ⟨rfl, hb⟩
        clear HSame HUs
        have hL13 := hL12.low hb
        have hir13 := hir12.low hb
        have hur13 := own_low hur12 hb
        clear hb hL12 hir12 hur12 Q Q'
        obtain ⟨Q, Q'⟩ := hL13.gr
        have HL := Lib.hid hL13
        clear hL13 hir13 hur13 Q Q' HRb HK
        go_wp2
        go_roundw
        case rel => exact ⟨k + 1, b2, d3, by omega, rfl, congrArg (Value.int .i64) (by omega), HL.out⟩
        case measure => simp [intOf]; omega

      · have u4 : (x.f0 == 4) = false := by simpa using hx4
        clear hx4
        have hxbb : ¬ wr.heap.size = b.e := by have := hL.hB.el; omega
        go_wp2_with fail
        refine wp_named (fun W_ => LI first (nOf m) v1.heap.size r g0 g1 w b d W_ ∧ Row W_ wr.heap.size (vS x)) ⟨hL.low (below_setRow ((Below.refl _ wr).alloc (Nat.le_refl _) _) (Nat.le_refl _) _), Row.setRow isRow_new⟩ ?_
        rintro Wt ⟨hLt, hXt⟩
        have hgd := hLt.gd
        have hap : Apart b r d.length := by rw [hln]; exact hLt.ap
        obtain ⟨d3, hd3⟩ : ∃ d3, actL first d x = d3 := ⟨_, rfl⟩
        have hl3 : d3.length = nOf m := by rw [← hd3, actL_len]; exact hln
        have HD := does_c b r first d x _ hLt.hB.drew hLt.hR.drew hap h0 (by omega) hWk
        rw [hd3] at HD
        have HD := Lib.hid HD
        have HAct := Lib.hid (fun (W' : World) (hB : BAt b first d3 W') (hR : RAt r first d3 W') (hA : AsideP (Ch b r d.length) Wt.drew W') => (by subst hd3; exact hLt.drew.act hgb HP.out hB hR hA : LI first (nOf m) v1.heap.size r g0 g1 w b d3 W'))
        have HH := Lib.hid (fun (W : World) (h : BAt b first d3 W) => Has_b b first x.f1 d3 W h h0 hWk)
        have HT := Lib.hid (fun (W : World) (h : RAt r first d3 W) => at_c r.g r.c r.c' d3.length r.A r.A' first x.f1 W h.row h0 (by omega))
        generalize hhz : hasB first d3.length x.f1 = hz at HH HT
        generalize hat : (if hz = true then x.f1 - first else -1) = at_ at HT
        have q2 : decide (0 ≤ at_) = hz := by
          cases hz
          · simp at hat; subst hat; rfl
          · simp at hat; subst hat; obtain ⟨j, -, e⟩ := hasB_yes hhz; exact decide_eq_true (by omega)
        have hxb : ∀ j, Ch b r d.length j → ¬ wr.heap.size = j := fun j hj e => by
          rcases hj with rfl | ⟨hp, rfl | rfl⟩
          · exact hxbb e
          · have := (hL.hR.pos hp).2.2.1.lt; omega
          · have := (hL.hR.pos hp).2.2.2.1.lt; omega
        have HXb := Lib.hid hxb
        clear hhz hat hxb hap hd3 hgd hxbb hL
        refine wp_region_held_drew (S := (fun w' => Row w' wr.heap.size (vS x))) (by kernel_rfl) hXt (fun hHeld => ?_)
        refine tk 0 ⟨some 55, .move (.tmp 10), 23, "law.go:105", #[], none⟩ ?_ ?_ ?_
        rotate_left
        · (intro _ _; go_simp; try with_reducible rfl)
        try simp only [Act.put, List.setIfInBounds_toArray, List.set_cons_zero, List.set_cons_succ, q2, bne_self_eq_false]
        refine tk 1 ⟨some 56, .move (.tmp 11), 27, "law.go:105", #[], none⟩ ?_ ?_ ?_
        rotate_left
        · (intro _ _; go_simp; try with_reducible rfl)
        try simp only [Act.put, List.setIfInBounds_toArray, List.set_cons_zero, List.set_cons_succ, q2, bne_self_eq_false]
        refine tk 2 ⟨some 57, .load 45 (.tmp 13), 45, "law.go:105", #[], none⟩ ?_ ?_ ?_
        rotate_left
        · (intro w_ hS_; (try dsimp only at hS_); obtain ⟨s1, s1'⟩ := hS_; go_simp; try with_reducible rfl)
        try simp only [Act.put, List.setIfInBounds_toArray, List.set_cons_zero, List.set_cons_succ, q2, bne_self_eq_false]
        refine wpAnyH_ready (rs := [3]) (by kernel_rfl) (by simp) ?_
        refine (AllReadyH.cons (o := ⟨some 58, .call ⟨.value (.func 30), #[.tmp 55, .tmp 56, .tmp 57], #[23, 27, 45]⟩, 4, "law.go:105", #[⟨0, .data⟩, ⟨1, .data⟩, ⟨2, .data⟩], none⟩) rfl (fun K hK => ?_) AllReadyH.nil)
        go_simp
        refine HD.out.mono ?_
        rintro e u3 ⟨rfl, hB3, hR3, hA3⟩
        have hL3 := HAct.out u3 hB3 hR3 hA3
        have hX3 := hA3.row hHeld (fun h => HXb.out _ h rfl)
        clear hB3 hR3 hA3
        refine hK.out _ _ hX3 (fun hHeld => ?_)
        clear hX3
        clear hK K
        try simp only [Act.put, List.setIfInBounds_toArray, List.set_cons_zero, List.set_cons_succ, q2, bne_self_eq_false]
        refine tk 4 ⟨some 59, .unOp .not 4 (.tmp 58), 4, "law.go:105", #[⟨3, .data⟩], none⟩ ?_ ?_ ?_
        rotate_left
        · (intro _ _; go_simp; try with_reducible rfl)
        try simp only [Act.put, List.setIfInBounds_toArray, List.set_cons_zero, List.set_cons_succ, q2, bne_self_eq_false]
        refine tk 5 ⟨some 60, .move (.tmp 59), 4, "law.go:105", #[⟨4, .data⟩, ⟨3, .chain⟩], none⟩ ?_ ?_ ?_
        rotate_left
        · (intro _ _; go_simp; try with_reducible rfl)
        try simp only [Act.put, List.setIfInBounds_toArray, List.set_cons_zero, List.set_cons_succ, q2, bne_self_eq_false]
        refine tk 6 ⟨some 61, .move (.tmp 10), 23, "law.go:105", #[⟨5, .guard⟩], some (5, false)⟩ ?_ ?_ ?_
        rotate_left
        · (intro _ _; go_simp; try with_reducible rfl)
        try simp only [Act.put, List.setIfInBounds_toArray, List.set_cons_zero, List.set_cons_succ, q2, bne_self_eq_false]
        refine tk 7 ⟨some 62, .move (.tmp 11), 27, "law.go:105", #[⟨5, .guard⟩], some (5, false)⟩ ?_ ?_ ?_
        rotate_left
        · (intro _ _; go_simp; try with_reducible rfl)
        try simp only [Act.put, List.setIfInBounds_toArray, List.set_cons_zero, List.set_cons_succ, q2, bne_self_eq_false]
        refine wpAnyH_ready (rs := [8]) (by kernel_rfl) (by simp) ?_
        refine (AllReadyH.cons (o := ⟨some 63, .call ⟨.value (.func 13), #[.tmp 61, .tmp 62], #[23, 27]⟩, 4, "law.go:105", #[⟨6, .data⟩, ⟨7, .data⟩, ⟨5, .chain⟩, ⟨5, .guard⟩], some (5, false)⟩) rfl (fun K hK => ?_) AllReadyH.nil)
        go_simp
        refine (alike_c b r first d3 _ hL3.hB hL3.hR h0 (by omega)).mono ?_
        rintro e u8 ⟨rfl, hb_⟩
        have hL8 := hL3.low hb_
        have hX_ := hHeld.below hb_ hHeld.lt
        clear hb_ hL3
        refine hK.out _ _ hX_ (fun hHeld => ?_)
        clear hX_
        clear hK K
        try simp only [Act.put, List.setIfInBounds_toArray, List.set_cons_zero, List.set_cons_succ, q2, bne_self_eq_false]
        refine tk 9 ⟨some 64, .unOp .not 4 (.tmp 63), 4, "law.go:105", #[⟨8, .data⟩, ⟨5, .guard⟩], some (5, false)⟩ ?_ ?_ ?_
        rotate_left
        · (intro _ _; go_simp; try with_reducible rfl)
        try simp only [Act.put, List.setIfInBounds_toArray, List.set_cons_zero, List.set_cons_succ, q2, bne_self_eq_false]
        refine tk 10 ⟨some 65, .pick (.tmp 60) (.const (.bool true)) (.tmp 64), 4, "law.go:105", #[⟨5, .data⟩, ⟨9, .data⟩], none⟩ ?_ ?_ ?_
        rotate_left
        · (intro _ _; go_simp; try with_reducible rfl)
        try simp only [Act.put, List.setIfInBounds_toArray, List.set_cons_zero, List.set_cons_succ, q2, bne_self_eq_false]
        refine tk 11 ⟨some 66, .move (.tmp 65), 4, "law.go:105", #[⟨10, .data⟩, ⟨8, .chain⟩], none⟩ ?_ ?_ ?_
        rotate_left
        · (intro _ _; go_simp; try with_reducible rfl)
        try simp only [Act.put, List.setIfInBounds_toArray, List.set_cons_zero, List.set_cons_succ, q2, bne_self_eq_false]
        refine tk 12 ⟨some 67, .move (.tmp 10), 23, "law.go:105", #[⟨11, .guard⟩], some (11, false)⟩ ?_ ?_ ?_
        rotate_left
        · (intro _ _; go_simp; try with_reducible rfl)
        try simp only [Act.put, List.setIfInBounds_toArray, List.set_cons_zero, List.set_cons_succ, q2, bne_self_eq_false]
        refine tk 13 ⟨some 68, .fieldAddr 45 (.tmp 13) 1, 0, "law.go:105", #[⟨11, .guard⟩], some (11, false)⟩ ?_ ?_ ?_
        rotate_left
        · (intro _ _; go_simp; try with_reducible rfl)
        try simp only [Act.put, List.setIfInBounds_toArray, List.set_cons_zero, List.set_cons_succ, q2, bne_self_eq_false]
        refine tk 14 ⟨some 69, .load 3 (.tmp 68), 3, "law.go:105", #[⟨13, .data⟩, ⟨11, .guard⟩], some (11, false)⟩ ?_ ?_ ?_
        rotate_left
        · (intro w_ hS_; (try dsimp only at hS_); obtain ⟨s1, s1'⟩ := hS_; go_simp; try with_reducible rfl)
        try simp only [Act.put, List.setIfInBounds_toArray, List.set_cons_zero, List.set_cons_succ, q2, bne_self_eq_false]
        refine tk 16 ⟨some 71, .move (.tmp 11), 27, "law.go:105", #[⟨11, .guard⟩], some (11, false)⟩ ?_ ?_ ?_
        rotate_left
        · (intro _ _; go_simp; try with_reducible rfl)
        try simp only [Act.put, List.setIfInBounds_toArray, List.set_cons_zero, List.set_cons_succ, q2, bne_self_eq_false]
        refine tk 17 ⟨some 72, .fieldAddr 45 (.tmp 13) 1, 0, "law.go:105", #[⟨11, .guard⟩], some (11, false)⟩ ?_ ?_ ?_
        rotate_left
        · (intro _ _; go_simp; try with_reducible rfl)
        try simp only [Act.put, List.setIfInBounds_toArray, List.set_cons_zero, List.set_cons_succ, q2, bne_self_eq_false]
        refine tk 18 ⟨some 73, .load 3 (.tmp 72), 3, "law.go:105", #[⟨17, .data⟩, ⟨11, .guard⟩], some (11, false)⟩ ?_ ?_ ?_
        rotate_left
        · (intro w_ hS_; (try dsimp only at hS_); obtain ⟨s1, s1'⟩ := hS_; go_simp; try with_reducible rfl)
        try simp only [Act.put, List.setIfInBounds_toArray, List.set_cons_zero, List.set_cons_succ, q2, bne_self_eq_false]
        refine wpAnyH_ready (rs := [15]) (by kernel_rfl) (by simp) ?_
        refine (AllReadyH.cons (o := ⟨some 70, .call ⟨.value (.func 14), #[.tmp 67, .tmp 69], #[23, 3]⟩, 4, "law.go:105", #[⟨12, .data⟩, ⟨14, .data⟩, ⟨11, .chain⟩, ⟨11, .guard⟩], some (11, false)⟩) rfl (fun K hK => ?_) AllReadyH.nil)
        go_simp
        refine (HH.out _ hL8.hB).mono ?_
        rintro e u15 ⟨rfl, hb_⟩
        have hL15 := hL8.low hb_
        have hX_ := hHeld.below hb_ hHeld.lt
        clear hb_ hL8
        refine hK.out _ _ hX_ (fun hHeld => ?_)
        clear hX_
        clear hK K
        try simp only [Act.put, List.setIfInBounds_toArray, List.set_cons_zero, List.set_cons_succ, q2, bne_self_eq_false]
        refine wpAnyH_ready (rs := [19]) (by kernel_rfl) (by simp) ?_
        refine (AllReadyH.cons (o := ⟨some 74, .call ⟨.value (.func 15), #[.tmp 71, .tmp 73], #[27, 3]⟩, 3, "law.go:105", #[⟨16, .data⟩, ⟨18, .data⟩, ⟨15, .chain⟩, ⟨11, .guard⟩], some (11, false)⟩) rfl (fun K hK => ?_) AllReadyH.nil)
        go_simp
        refine (HT.out _ hL15.hR).mono ?_
        rintro e u19 ⟨rfl, hb_⟩
        have hL19 := hL15.low hb_
        have hX_ := hHeld.below hb_ hHeld.lt
        clear hb_ hL15
        refine hK.out _ _ hX_ (fun hHeld => ?_)
        clear hX_
        clear hK K
        try simp only [Act.put, List.setIfInBounds_toArray, List.set_cons_zero, List.set_cons_succ, q2, bne_self_eq_false]
        refine tk 20 ⟨some 75, .binOp .geq 3 (.tmp 74) (.const (.int .i64 0)) 3, 4, "law.go:105", #[⟨19, .data⟩, ⟨11, .guard⟩], some (11, false)⟩ ?_ ?_ ?_
        rotate_left
        · (intro _ _; go_simp; try with_reducible rfl)
        try simp only [Act.put, List.setIfInBounds_toArray, List.set_cons_zero, List.set_cons_succ, q2, bne_self_eq_false]
        refine tk 21 ⟨some 76, .binOp .neq 4 (.tmp 70) (.tmp 75) 4, 4, "law.go:105", #[⟨15, .data⟩, ⟨20, .data⟩, ⟨11, .guard⟩], some (11, false)⟩ ?_ ?_ ?_
        rotate_left
        · (intro _ _; go_simp; try with_reducible rfl)
        try simp only [Act.put, List.setIfInBounds_toArray, List.set_cons_zero, List.set_cons_succ, q2, bne_self_eq_false]
        refine tk 22 ⟨some 77, .pick (.tmp 66) (.const (.bool true)) (.tmp 76), 4, "law.go:105", #[⟨11, .data⟩, ⟨21, .data⟩], none⟩ ?_ ?_ ?_
        rotate_left
        · (intro _ _; go_simp; try with_reducible rfl)
        try simp only [Act.put, List.setIfInBounds_toArray, List.set_cons_zero, List.set_cons_succ, q2, bne_self_eq_false]
        refine wpAnyH_done (by kernel_rfl) ?_ _
        (try dsimp only at hHeld)
        clear hHeld HD HAct HH HT HXb q2 hLt hXt c0 c1 c2 c3 c4 c5 c6 c7 c8 c9 c10
        have hll : (rdyL g0 g1 (allL first d3)).length ≤ d3.length := rdy_len g0 g1 first d3
        obtain ⟨LL, hLL⟩ : ∃ LL, rdyL g0 g1 (allL first d3) = LL := ⟨_, rfl⟩
        rw [hLL] at hll
        have hmem : ∀ p ∈ LL, p ∈ allL first d3 := by rw [← hLL]; exact rdy_mem
        have hnod : (LL.map (·.1)).Nodup := by rw [← hLL]; exact rdy_nodup g0 g1 first d3
        have hml : (LL.map (·.1)).length = LL.length := List.length_map ..
        have HRb := Lib.hid (fun (W : World) (h : LI first (nOf m) v1.heap.size r g0 g1 w b d3 W) => (by have := ready_b b g0 g1 first d3 W h.hB h0 (by omega) h.gd; rw [hLL] at this; exact this : Calls Try.prog 20 #[.pointer (some ⟨b.g, 0, none⟩), .agg #[.bool g0, .bool g1]] W fun e w' => ∃ v, e = .returned v ∧ (∀ F : Nat → Prop, (∀ k, F k → k < W.heap.size ∧ k ≠ b.g) → ItV F v LL w') ∧ Below W.heap.size W w'))
        have hRr := rReady_c r g0 g1 first d3 u19 hL19.hR h0 (by omega) (good_grp hL19.gd)
        rw [hLL] at hRr
        have HRr := Lib.hid hRr
        clear hRr hLL
        have HK := Lib.hid (And.intro hmem hnod)
        clear hmem hnod
        obtain ⟨Q, Q'⟩ := hL19.gr
        go_wp2_with fail
        refine HRr.out.mono ?_
        rintro e y1 ⟨ur, rfl, hur0, hb⟩
        have hur1 : y1.ownsRow (u19.heap.size + 1) 3 1 ur LL.length ((LL.map (·.1)).map (Value.int .i64)) := by rw [List.map_map]; exact hur0
        obtain ⟨pr, cr, rfl, hcr, hir1, -⟩ := own_at (l := LL.map (·.1)) hur1 hml
        have hL1 := hL19.low hb
        clear hb hL19 Q Q' hur0 HRr
        obtain ⟨Q, Q'⟩ := hL1.gr
        go_wp2_with fail
        refine (HRb.out y1 hL1).mono ?_
        rintro e y2 ⟨it, rfl, hit, hb⟩
        have HI := Lib.hid (hit (fun _ => False) (fun _ h => h.elim))
        clear hit
        have hL2 := hL1.low hb
        have hir2 := hir1.low hb
        have hur2 := own_low hur1 hb
        clear hb hL1 hir1 hur1 Q Q'
        obtain ⟨Q, Q'⟩ := hL2.gr
        go_wp2_with fail
        refine (ids_c _ _ _ _ HI.out (by omega)).mono ?_
        rintro e y3 ⟨ui, rfl, hui, hb⟩
        obtain ⟨pi, ci, rfl, hci, hii, -⟩ := own_at (l := LL.map (·.1)) (by rw [List.map_map]; exact hui) hml
        clear hui HI
        have hL3 := hL2.low hb
        have hir3 := hir2.low hb
        have hur3 := own_low hur2 hb
        clear hb hL2 hir2 hur2 Q Q'
        obtain ⟨Q, Q'⟩ := hL3.gr
        have hsame := same_c pi pr ci cr (LL.map (·.1)) y3 hii hir3 (by omega) (by omega) (by omega)
        rw [hml] at hsame
        have HSame := Lib.hid hsame
        clear hsame hii
        go_wp2_with fail
        refine (HSame.out).mono ?_
        rintro e y4 ⟨rfl, hb⟩
        clear HSame
        have hL4 := hL3.low hb
        have hir4 := hir3.low hb
        have hur4 := own_low hur3 hb
        clear hb hL3 hir3 hur3 Q Q'
        obtain ⟨Q, Q'⟩ := hL4.gr
        go_wp2_with fail
        refine (HRb.out y4 hL4).mono ?_
        rintro e y5 ⟨it, rfl, hit, hb⟩
        have HI := Lib.hid (hit (fun _ => False) (fun _ h => h.elim))
        clear hit
        have hL5 := hL4.low hb
        have hir5 := hir4.low hb
        have hur5 := own_low hur4 hb
        clear hb hL4 hir4 hur4 Q Q'
        obtain ⟨Q, Q'⟩ := hL5.gr
        go_wp2_with fail
        refine (Best_c _ _ _ _ HI.out).mono ?_
        rintro e y6 ⟨rfl, hb⟩
        clear HI
        have hL6 := hL5.low hb
        have hir6 := hir5.low hb
        have hur6 := own_low hur5 hb
        clear hb hL5 hir5 hur5 Q Q'
        obtain ⟨Q, Q'⟩ := hL6.gr
        go_wp2_with fail
        refine (rBest_c r first d3 LL pr cr y6 hL6.hR h0 (by omega) hir6 (by omega) HK.out.1).mono ?_
        rintro e y7 ⟨rfl, hb⟩
        have hL7 := hL6.low hb
        have hir7 := hir6.low hb
        have hur7 := own_low hur6 hb
        clear hb hL6 hir6 hur6 Q Q'
        obtain ⟨Q, Q'⟩ := hL7.gr
        go_wp2_with fail
        refine (HRb.out y7 hL7).mono ?_
        rintro e y8 ⟨it, rfl, hit, hb⟩
        have HI := Lib.hid (hit (fun _ => False) (fun _ h => h.elim))
        clear hit
        have hL8 := hL7.low hb
        have hir8 := hir7.low hb
        have hur8 := own_low hur7 hb
        clear hb hL7 hir7 hur7 Q Q'
        obtain ⟨Q, Q'⟩ := hL8.gr
        go_wp2_with fail
        refine (Count_c _ _ _ _ HI.out (by omega)).mono ?_
        rintro e y9 ⟨rfl, hb⟩
        clear HI
        have hL9 := hL8.low hb
        have hir9 := hir8.low hb
        have hur9 := own_low hur8 hb
        clear hb hL8 hir8 hur8 Q Q'
        obtain ⟨Q, Q'⟩ := hL9.gr
        go_wp2_with fail
        refine (HRb.out y9 hL9).mono ?_
        rintro e y10 ⟨it, rfl, hit, hb⟩
        have HI := Lib.hid (hit (fun _ => False) (fun _ h => h.elim))
        clear hit
        have hL10 := hL9.low hb
        have hir10 := hir9.low hb
        have hur10 := own_low hur9 hb
        clear hb hL9 hir9 hur9 Q Q'
        obtain ⟨Q, Q'⟩ := hL10.gr
        go_wp2_with fail
        refine (Sorted_c _ _ _ _ HI.out (by omega)).mono ?_
        rintro e y11 ⟨us, l, rfl, hperm, hsrt, hus, hb⟩
        clear HI
        have hL11 := hL10.low hb
        have hir11 := hir10.low hb
        have hur11 := own_low hur10 hb
        clear hb hL10 hir10 hur10 Q Q'
        obtain ⟨Q, Q'⟩ := hL11.gr
        have HUs := Lib.hid (And.intro hperm (And.intro hsrt hus))
        clear hperm hsrt hus
        go_wp2_with fail
        refine (rSorted_c r first d3 LL (.slice pr LL.length cr) _ y11 hL11.hR h0 (by omega) hur11 (by omega) HK.out.1).mono ?_
        rintro e y12 ⟨ut, ids, rfl, hsel, hut, hb⟩
        have hids := sel_srt hsel l HUs.out.1 HUs.out.2.1 HK.out.2
        subst hids
        have hl2 : (l.map P.f1).length = LL.length := by have := HUs.out.1.length_eq; simpa [prs] using this
        obtain ⟨ps_, cs_, rfl, hcs, his, -⟩ := own_at (l := l.map P.f1) (by rw [List.map_map]; exact own_low HUs.out.2.2 hb) hl2
        rw [hl2] at hut
        obtain ⟨pt, ct, rfl, hct, hit, -⟩ := own_at (l := l.map P.f1) hut hl2
        have hsame := same_c ps_ pt cs_ ct (l.map P.f1) y12 his hit (by omega) (by omega) (by omega)
        rw [hl2] at hsame
        have HSame := Lib.hid hsame
        clear hsame his hit hut hsel
        have hL12 := hL11.low hb
        have hir12 := hir11.low hb
        have hur12 := own_low hur11 hb
        clear hb hL11 hir11 hur11 Q Q'
        obtain ⟨Q, Q'⟩ := hL12.gr
        go_wp2_with fail
        refine (HSame.out).mono ?_
        rintro e y13 ⟨rfl, hb⟩
        clear HSame HUs
        have hL13 := hL12.low hb
        have hir13 := hir12.low hb
        have hur13 := own_low hur12 hb
        clear hb hL12 hir12 hur12 Q Q'
        obtain ⟨Q, Q'⟩ := hL13.gr
        have HL := Lib.hid hL13
        clear hL13 hir13 hur13 Q Q' HRb HK
        go_wp2
        go_roundw
        case rel => exact ⟨k + 1, b, d3, by omega, rfl, congrArg (Value.int .i64) (by omega), HL.out⟩
        case measure => simp [intOf]; omega
    · obtain rfl : k = xs.length := by omega
      have k2 : decide ((xs.length : Int) < xs.length) = false := decide_eq_false (by omega)
      have HBl := Lib.hid hL.bl
      clear hL
      go_wp2
      go_ret
      exact ⟨rfl, HBl.out⟩
end Go.Proofs.Ytbglgblngfbhbaa.Bk
