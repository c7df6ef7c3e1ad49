/- The document's bank: Best. -/
import Derived.Test.YtbglgblngfbhbaaK26
import Derived.Test.YtbglgblngfbhbaaIAllx8
namespace Go.Proofs.Ytbglgblngfbhbaa.Bk
open Go.RowKit Go.Shelf Go.Proofs.Ytbglgblngfbhbaa.IAll Go.Proofs.YtbglgblngfbhbaaW.PrintWords Go.Proofs.YtbglgblngfbhbaaW.PrintLast Go.Proofs.YtbglgblngfbhbaaW.PrintMore
set_option linter.unusedVariables false
set_option linter.unusedSectionVars false
set_option linter.unusedSimpArgs false
attribute [local go_sem] Oper.semAt_some cell_row frozen_row isRow_setCell_eq rowAt_setCell_same rowAt_setCell_other isRow_alloc_eq rowAt_alloc rowAt_new rowAt_new' isRow_setRow_eq rowAt_setRow_same rowAt_setRow_other isRow_drew rowAt_drew size_setRow_ size_drew_ blk_ptr aggOf_agg offv_ptr below_alloc_e below_setCell_e below_setRow_e below_refl_e below_drew_r isRow_drewN rowAt_drewN below_drewN_e le_add_r asideP_alloc_e asideP_setCell_e asideP_setRow_e asideP_drew_e asideP_drewN_e asideP_refl_e allOne_nil allOne_cons Value.oneCell' addr_at mid_FT vE_size vL_size vQ_size vC_size vS_size vP_size vE_one vL_one vQ_one vC_one vS_one vP_one mid_spl spl_size spl_spl vC_0 vC_1 vC_2 vC_3 mid_vE vE_ext4 vE_ext7 vE_ext8 vE_0 vE_1 vE_2 vE_3 vE_4 vE_5 vE_6 vE_7 vL_0 vL_1 vL_2 vL_3 vL_4 vL_5 vL_6
attribute [local go_sem ↓] loadE storeE loadEm storeEm loadEg storeEg loadEmg storeEmg loadL storeL loadLm storeLm loadQ storeQ loadQm storeQm loadC storeC loadCg storeCg loadS storeS loadSm loadP storeP loadPm loadPg storePg 
set_option maxRecDepth 100000

theorem rbefore_c (p a q b : Int) (w : World) : Calls Try.prog 49 #[.int .i64 p, .int .i64 a, .int .i64 q, .int .i64 b] w fun e w' => e = .returned (.bool (bef p a q b)) ∧ Below w.heap.size w w' := (crierref06_Before.calls p a q b _ w (by
  unfold crierref06_Before.f bef
  by_cases h2 : p = q
  · subst h2; simp
  · simp [h2])).mono fun _ _ q => ⟨q.1, below_drawn0 q.2⟩
/-- what lies where, in a round of Best -/
structure PB (r : RSh) (first : Int) (d : List E) (ob : Nat) (ids : List Int) (T : List Value) (cc : C) (w W : World) : Prop where
  g : Row W r.g #[.int .i64 first, .slice (some ⟨r.l, 0, none⟩) d.length r.c, .slice (some ⟨r.x, 0, none⟩) d.length r.c']
  l : Row W r.l (FT eEL d r.T)
  o : Row W ob (FT eI ids T)
  z : Row W w.heap.size (vC zC)
  c : Row W (w.heap.size + 1) (vC cc)
  b : Below w.heap.size w W
theorem PB.low {r : RSh} {first : Int} {d : List E} {ob : Nat} {ids : List Int} {T : List Value} {cc : C} {w W W' : World} (h : PB r first d ob ids T cc w W) (hb : Below W.heap.size W W') : PB r first d ob ids T cc w W' :=
  ⟨h.g.below hb h.g.lt, h.l.below hb h.l.lt, h.o.below hb h.o.lt, h.z.below hb h.z.lt, h.c.below hb h.c.lt, h.b.trans (hb.mono h.b.size)⟩
theorem PB.drew {r : RSh} {first : Int} {d : List E} {ob : Nat} {ids : List Int} {T : List Value} {cc : C} {w W : World} (h : PB r first d ob ids T cc w W) : PB r first d ob ids T cc w W.drew := h.low (below_drew0 (Below.refl _ _))
theorem PB.turn {r : RSh} {first : Int} {d : List E} {ob : Nat} {ids : List Int} {T : List Value} {cc c2 : C} {w W : World} (h : PB r first d ob ids T cc w W) (n1 : r.g < w.heap.size) (n2 : r.l < w.heap.size) (n3 : ob < w.heap.size) : PB r first d ob ids T c2 w (W.setRow (w.heap.size + 1) (vC c2)) := by
  have m1 : ¬ w.heap.size + 1 = r.g := by omega
  have m2 : ¬ w.heap.size + 1 = r.l := by omega
  have m3 : ¬ w.heap.size + 1 = ob := by omega
  have m4 : ¬ w.heap.size + 1 = w.heap.size := by omega
  have q1 : ¬ r.g = w.heap.size + 1 := by omega
  have q2 : ¬ r.l = w.heap.size + 1 := by omega
  have q3 : ¬ ob = w.heap.size + 1 := by omega
  have q4 : ¬ w.heap.size = w.heap.size + 1 := by omega
  obtain ⟨⟨a1, b1⟩, ⟨a2, b2⟩, ⟨a3, b3⟩, ⟨a4, b4⟩, ⟨a5, b5⟩, hb⟩ := h
  exact ⟨⟨by go_simp, by go_simp⟩, ⟨by go_simp, by go_simp⟩, ⟨by go_simp, by go_simp⟩, ⟨by go_simp, by go_simp⟩, ⟨by go_simp, by go_simp⟩, below_setRow hb (by omega) _⟩
set_option maxHeartbeats 4000000 in
theorem rBest_pos (r : RSh) (first : Int) (d : List E) (ps : List (Int × E)) (ob c : Nat) (T : List Value) (w : World) (hR : RAt r first d w) (h0 : 0 ≤ first) (h1 : first + d.length ≤ 16384) (hI : Row w ob (FT eI (ps.map (·.1)) T)) (hl : ps.length ≤ 16384) (hps : ∀ p ∈ ps, p ∈ allL first d) (hp : 0 < ps.length) :
    Calls Try.prog 32 #[.pointer (some ⟨r.g, 0, none⟩), .slice (some ⟨ob, 0, none⟩) ps.length c] w fun e w' => e = .returned (.agg (vC (best ps))) ∧ Below w.heap.size w w' := by
  have hd : 0 < d.length := by
    cases ps with
    | nil => exact absurd hp (Nat.lt_irrefl _)
    | cons x t =>
      have := List.length_pos_of_mem (hps x (by simp))
      rwa [allL_length] at this
  obtain ⟨e1, e2, L0, -, -, -, -⟩ := hR.pos hd
  have G0 := hR.row
  rw [e1, e2] at G0
  have lg := G0.lt
  have ll := L0.lt
  have lo := hI.lt
  have HAt := Lib.hid (fun (id : Int) (W : World) (h : Row W r.g #[.int .i64 first, .slice (some ⟨r.l, 0, none⟩) d.length r.c, .slice (some ⟨r.x, 0, none⟩) d.length r.c']) => at_c r.g r.c r.c' d.length _ _ first id W h h0 h1)
  have HS := Lib.hid (And.intro G0 (And.intro L0 hI))
  clear G0 L0 hI hR e1 e2
  go_enter Try.func32, Try.ntmps32
  go_wp2
  go_loopw [6] (fun q wr => ∃ k : Nat, k ≤ ps.length ∧ q = .int .i64 k ∧ PB r first d ob (ps.map (·.1)) T (best (ps.take k)) w wr) (fun q _ => ps.length - (intOf q).toNat)
  case atStart =>
    have hb : Below w.heap.size w ((w.alloc (.cells #[.int .i64 0, .int .i64 0, .int .i64 0, .bool false] 63)).alloc (.cells #[.int .i64 0, .int .i64 0, .int .i64 0, .bool false] 63)) := ((Below.refl _ w).alloc (Nat.le_refl _) _).alloc (by simp) _
    refine ⟨0, by omega, rfl, HS.out.1.below hb lg, HS.out.2.1.below hb ll, HS.out.2.2.below hb lo, ⟨by go_simp, by go_simp; rfl⟩, ⟨by go_simp, by go_simp; rfl⟩, hb⟩
  case round =>
    obtain ⟨k, hk, rfl, hP⟩ := hrel
    have hPb := hP.b.size
    have lz := hP.c.lt
    by_cases hlt : k < ps.length
    · have k1 : (k : Int) < ps.length := by omega
      have k0 : (0 : Int) ≤ k := by omega
      have k2 : decide ((k : Int) < ps.length) = true := decide_eq_true k1
      have w3 : IntKind.i64.wrap ((k : Int) + 1) = (k : Int) + 1 := IntWalk.i64_in _ (by omega)
      have hget : ps[k]? = some ps[k] := List.getElem?_eq_getElem hlt
      have hm := hps _ (List.getElem_mem hlt)
      generalize ps[k] = x at hget hm
      obtain ⟨j, hj1, hj2⟩ := mem_allL hm
      obtain ⟨id, y⟩ := x
      simp only at hj1 hj2
      have hj3 : j < d.length := (List.getElem?_eq_some_iff.1 hj1).1
      have j0 : (0 : Int) ≤ j := by omega
      have j1 : (j : Int) < d.length := by omega
      have hx7 : (FT eEL d r.T).extract (j * 7) (j * 7 + 7) = vL y.l := FT_ext eEL_len hj1 (Nat.le_refl _)
      have hs7 : j * 7 + 7 ≤ (FT eEL d r.T).size := by rw [FT_size eEL_len]; omega
      have hid : (FT eI (ps.map (·.1)) T)[k]? = some (.int .i64 id) := ints_at (by rw [List.getElem?_map, hget]; rfl)
      have HA2 := Lib.hid (HAt.out id)
      rw [hj2, hasB_at hj3, if_pos rfl, show first + (j : Int) - first = j by omega, ← hj2] at HA2
      have hT : best (ps.take (k + 1)) = bst (best (ps.take k)) (id, y) := by rw [List.take_add_one, hget]; exact best_snoc _ _
      have HT := Lib.hid hT
      generalize best (ps.take k) = cc at *
      generalize hids : ps.map (·.1) = ids at *
      clear hT hget hm hj1 hj2 hj3 HS HAt hids
      obtain ⟨s1, s1'⟩ := hP.g
      go_wp2_with fail
      refine wp_region_held_drew (S := (PB r first d ob ids T cc w)) (by kernel_rfl) hP.drew (fun hHeld => ?_)
      refine tk 0 ⟨some 14, .move (.tmp 0), 27, "ref.go:81", #[], none⟩ ?_ ?_ ?_
      rotate_left
      · (intro _ _; go_simp; try with_reducible rfl)
      try simp only [Act.put, List.setIfInBounds_toArray, List.set_cons_zero, List.set_cons_succ]
      refine tk 1 ⟨some 15, .nilCheck (.tmp 14), 0, "ref.go:81", #[⟨0, .data⟩], none⟩ ?_ ?_ ?_
      rotate_left
      · (intro _ _; go_simp; try with_reducible rfl)
      try simp only [Act.put, List.setIfInBounds_toArray, List.set_cons_zero, List.set_cons_succ]
      refine tk 2 ⟨some 16, .fieldAddr 78 (.tmp 15) 1, 0, "ref.go:81", #[⟨1, .data⟩], none⟩ ?_ ?_ ?_
      rotate_left
      · (intro _ _; go_simp; try with_reducible rfl)
      try simp only [Act.put, List.setIfInBounds_toArray, List.set_cons_zero, List.set_cons_succ]
      refine tk 3 ⟨some 17, .load 75 (.tmp 16), 75, "ref.go:81", #[⟨2, .data⟩], none⟩ ?_ ?_ ?_
      rotate_left
      · (intro w_ hS_; obtain ⟨⟨s1, s1'⟩, ⟨s2, s2'⟩, ⟨s3, s3'⟩, ⟨s4, s4'⟩, ⟨s5, s5'⟩, -⟩ := hS_; go_simp; try with_reducible rfl)
      try simp only [Act.put, List.setIfInBounds_toArray, List.set_cons_zero, List.set_cons_succ]
      refine tk 4 ⟨some 18, .move (.tmp 0), 27, "ref.go:81", #[], none⟩ ?_ ?_ ?_
      rotate_left
      · (intro _ _; go_simp; try with_reducible rfl)
      try simp only [Act.put, List.setIfInBounds_toArray, List.set_cons_zero, List.set_cons_succ]
      refine tk 5 ⟨some 19, .move (.tmp 1), 51, "ref.go:81", #[], none⟩ ?_ ?_ ?_
      rotate_left
      · (intro _ _; go_simp; try with_reducible rfl)
      try simp only [Act.put, List.setIfInBounds_toArray, List.set_cons_zero, List.set_cons_succ]
      refine tk 6 ⟨some 20, .move (.tmp 6), 3, "ref.go:81", #[], none⟩ ?_ ?_ ?_
      rotate_left
      · (intro _ _; go_simp; try with_reducible rfl)
      try simp only [Act.put, List.setIfInBounds_toArray, List.set_cons_zero, List.set_cons_succ]
      refine tk 7 ⟨some 21, .indexAddr 51 (.tmp 19) (.tmp 20), 0, "ref.go:81", #[⟨5, .data⟩, ⟨6, .data⟩], none⟩ ?_ ?_ ?_
      rotate_left
      · (intro _ _; go_simp; try with_reducible rfl)
      try simp only [Act.put, List.setIfInBounds_toArray, List.set_cons_zero, List.set_cons_succ]
      refine tk 8 ⟨some 22, .load 3 (.tmp 21), 3, "ref.go:81", #[⟨7, .data⟩], none⟩ ?_ ?_ ?_
      rotate_left
      · (intro w_ hS_; obtain ⟨⟨s1, s1'⟩, ⟨s2, s2'⟩, ⟨s3, s3'⟩, ⟨s4, s4'⟩, ⟨s5, s5'⟩, -⟩ := hS_; go_simp; try with_reducible rfl)
      try simp only [Act.put, List.setIfInBounds_toArray, List.set_cons_zero, List.set_cons_succ]
      refine wpAnyH_ready (rs := [9, 12]) (by kernel_rfl) (by simp) ?_
      refine (AllReadyH.cons (o := ⟨some 23, .call ⟨.value (.func 15), #[.tmp 18, .tmp 22], #[27, 3]⟩, 3, "ref.go:81", #[⟨4, .data⟩, ⟨8, .data⟩], none⟩) rfl (fun K hK => ?_) (AllReadyH.cons (o := ⟨some 7, .alloc 33, 0, "ref.go:81", #[], none⟩) rfl (fun K hK => ?_) AllReadyH.nil))
      · skip
        go_simp
        refine (HA2.out _ hHeld.g).mono ?_
        rintro e u1 ⟨rfl, hb1⟩
        refine hK.out _ _ (hHeld.low hb1) (fun hHeld => ?_)
        clear hK K
        try simp only [Act.put, List.setIfInBounds_toArray, List.set_cons_zero, List.set_cons_succ]
        refine tk 10 ⟨some 24, .indexAddr 75 (.tmp 17) (.tmp 23), 0, "ref.go:81", #[⟨3, .data⟩, ⟨9, .data⟩], none⟩ ?_ ?_ ?_
        rotate_left
        · (intro _ _; go_simp; try with_reducible rfl)
        try simp only [Act.put, List.setIfInBounds_toArray, List.set_cons_zero, List.set_cons_succ]
        refine tk 11 ⟨some 25, .load 33 (.tmp 24), 33, "ref.go:81", #[⟨10, .data⟩], none⟩ ?_ ?_ ?_
        rotate_left
        · (intro w_ hS_; obtain ⟨⟨s1, s1'⟩, ⟨s2, s2'⟩, ⟨s3, s3'⟩, ⟨s4, s4'⟩, ⟨s5, s5'⟩, -⟩ := hS_; go_simp; try with_reducible rfl)
        try simp only [Act.put, List.setIfInBounds_toArray, List.set_cons_zero, List.set_cons_succ]
        refine wpAnyH_ready (rs := [12]) (by kernel_rfl) (by simp) ?_
        refine (AllReadyH.cons (o := ⟨some 7, .alloc 33, 0, "ref.go:81", #[], none⟩) rfl (fun K hK => ?_) AllReadyH.nil)
        go_simp
        have hA_ := hHeld
        refine hK.out _ _ (hHeld.low ((Below.refl _ _).alloc (Nat.le_refl _) _)) (fun hHeld => ?_)
        clear hK K
        try simp only [Act.put, List.setIfInBounds_toArray, List.set_cons_zero, List.set_cons_succ]
        refine wpAnyH_ready (rs := [13]) (by kernel_rfl) (by simp) ?_
        refine (AllReadyH.cons (o := ⟨none, .store 33 (.tmp 7) (.tmp 25), 0, "ref.go:81", #[⟨12, .data⟩, ⟨11, .data⟩, ⟨9, .chain⟩, ⟨0, .phase⟩, ⟨1, .phase⟩, ⟨2, .phase⟩, ⟨3, .phase⟩, ⟨4, .phase⟩, ⟨5, .phase⟩, ⟨6, .phase⟩, ⟨7, .phase⟩, ⟨8, .phase⟩, ⟨9, .phase⟩, ⟨10, .phase⟩, ⟨11, .phase⟩, ⟨12, .phase⟩], none⟩) rfl (fun K hK => ?_) AllReadyH.nil)
        have hS_ := hHeld; obtain ⟨⟨s1, s1'⟩, ⟨s2, s2'⟩, ⟨s3, s3'⟩, ⟨s4, s4'⟩, ⟨s5, s5'⟩, -⟩ := hS_
        go_simp
        have hF_ := hA_.low (below_box33 u1 y)
        refine hK.out _ _ hF_ (fun hHeld => ?_)
        clear hK K
        try simp only [Act.put, List.setIfInBounds_toArray, List.set_cons_zero, List.set_cons_succ]
        refine wpAnyH_done (by kernel_rfl) ?_ _
        (try dsimp only at hHeld)
        have hN_ : Row ((u1.alloc (.cells #[.bool false, .bool false, .bool false, .bool false, .bool false, .int .i64 0, .int .i64 0] 33)).setRow u1.heap.size (vL y.l)) u1.heap.size (vL y.l) := Row.setRow isRow_new
        refine exit_named (fun W_ => PB r first d ob ids T cc w W_ ∧ Row W_ u1.heap.size (vL y.l)) ⟨hHeld, hN_⟩ ?_
        rintro W5 ⟨hP5, hN5⟩
        have hnb0 : w.heap.size + 1 < u1.heap.size := by have := hb1.size; simp at this; omega
        generalize u1.heap.size = nb at *
        have HP5 := Lib.hid (And.intro hP5 hN5)
        clear hHeld hN_ hA_ hF_ hb1 s1 s1' 
        rcases Bool.eq_false_or_eq_true cc.f3 with hc3 | hc3
        · rcases Bool.eq_false_or_eq_true (bef y.f6 id cc.f1 cc.f0) with hbf | hbf
          · have hT2 : best (ps.take (k + 1)) = ⟨id, y.f6, y.f5, true⟩ := HT.out.trans (by unfold bst; simp [hc3, hbf])
            go_wp2_with fail
            refine wp_region_held_drew (S := (fun w' => PB r first d ob ids T cc w w' ∧ Row w' nb (vL y.l))) (by kernel_rfl) ⟨hP5.drew, hN5⟩ (fun hHeld => ?_)
            refine tk 0 ⟨some 26, .fieldAddr 63 (.tmp 5) 3, 0, "ref.go:82", #[], none⟩ ?_ ?_ ?_
            rotate_left
            · (intro _ _; go_simp; try with_reducible rfl)
            try simp only [Act.put, List.setIfInBounds_toArray, List.set_cons_zero, List.set_cons_succ, hc3]
            refine tk 1 ⟨some 27, .load 4 (.tmp 26), 4, "ref.go:82", #[⟨0, .data⟩], none⟩ ?_ ?_ ?_
            rotate_left
            · (intro w_ hS_; (try dsimp only at hS_); obtain ⟨⟨⟨s1, s1'⟩, ⟨s2, s2'⟩, ⟨s3, s3'⟩, ⟨s4, s4'⟩, ⟨s5, s5'⟩, -⟩, ⟨s6, s6'⟩⟩ := hS_; go_simp; try with_reducible rfl)
            try simp only [Act.put, List.setIfInBounds_toArray, List.set_cons_zero, List.set_cons_succ, hc3]
            refine tk 2 ⟨some 28, .unOp .not 4 (.tmp 27), 4, "ref.go:82", #[⟨1, .data⟩], none⟩ ?_ ?_ ?_
            rotate_left
            · (intro _ _; go_simp; try with_reducible rfl)
            try simp only [Act.put, List.setIfInBounds_toArray, List.set_cons_zero, List.set_cons_succ, hc3]
            refine tk 3 ⟨some 29, .move (.tmp 28), 4, "ref.go:82", #[⟨2, .data⟩], none⟩ ?_ ?_ ?_
            rotate_left
            · (intro _ _; go_simp; try with_reducible rfl)
            try simp only [Act.put, List.setIfInBounds_toArray, List.set_cons_zero, List.set_cons_succ, hc3]
            refine tk 4 ⟨some 30, .fieldAddr 33 (.tmp 7) 3, 0, "ref.go:82", #[⟨3, .guard⟩], some (3, false)⟩ ?_ ?_ ?_
            rotate_left
            · (intro _ _; go_simp; try with_reducible rfl)
            try simp only [Act.put, List.setIfInBounds_toArray, List.set_cons_zero, List.set_cons_succ, hc3]
            refine tk 5 ⟨some 31, .load 3 (.tmp 30), 3, "ref.go:82", #[⟨4, .data⟩, ⟨3, .guard⟩], some (3, false)⟩ ?_ ?_ ?_
            rotate_left
            · (intro w_ hS_; (try dsimp only at hS_); obtain ⟨⟨⟨s1, s1'⟩, ⟨s2, s2'⟩, ⟨s3, s3'⟩, ⟨s4, s4'⟩, ⟨s5, s5'⟩, -⟩, ⟨s6, s6'⟩⟩ := hS_; go_simp; try with_reducible rfl)
            try simp only [Act.put, List.setIfInBounds_toArray, List.set_cons_zero, List.set_cons_succ, hc3]
            refine tk 6 ⟨some 32, .move (.tmp 1), 51, "ref.go:82", #[⟨3, .guard⟩], some (3, false)⟩ ?_ ?_ ?_
            rotate_left
            · (intro _ _; go_simp; try with_reducible rfl)
            try simp only [Act.put, List.setIfInBounds_toArray, List.set_cons_zero, List.set_cons_succ, hc3]
            refine tk 7 ⟨some 33, .move (.tmp 6), 3, "ref.go:82", #[⟨3, .guard⟩], some (3, false)⟩ ?_ ?_ ?_
            rotate_left
            · (intro _ _; go_simp; try with_reducible rfl)
            try simp only [Act.put, List.setIfInBounds_toArray, List.set_cons_zero, List.set_cons_succ, hc3]
            refine tk 8 ⟨some 34, .indexAddr 51 (.tmp 32) (.tmp 33), 0, "ref.go:82", #[⟨6, .data⟩, ⟨7, .data⟩, ⟨3, .guard⟩], some (3, false)⟩ ?_ ?_ ?_
            rotate_left
            · (intro _ _; go_simp; try with_reducible rfl)
            try simp only [Act.put, List.setIfInBounds_toArray, List.set_cons_zero, List.set_cons_succ, hc3]
            refine tk 9 ⟨some 35, .load 3 (.tmp 34), 3, "ref.go:82", #[⟨8, .data⟩, ⟨3, .guard⟩], some (3, false)⟩ ?_ ?_ ?_
            rotate_left
            · (intro w_ hS_; (try dsimp only at hS_); obtain ⟨⟨⟨s1, s1'⟩, ⟨s2, s2'⟩, ⟨s3, s3'⟩, ⟨s4, s4'⟩, ⟨s5, s5'⟩, -⟩, ⟨s6, s6'⟩⟩ := hS_; go_simp; try with_reducible rfl)
            try simp only [Act.put, List.setIfInBounds_toArray, List.set_cons_zero, List.set_cons_succ, hc3]
            refine tk 10 ⟨some 36, .fieldAddr 63 (.tmp 5) 1, 0, "ref.go:82", #[⟨3, .guard⟩], some (3, false)⟩ ?_ ?_ ?_
            rotate_left
            · (intro _ _; go_simp; try with_reducible rfl)
            try simp only [Act.put, List.setIfInBounds_toArray, List.set_cons_zero, List.set_cons_succ, hc3]
            refine tk 11 ⟨some 37, .load 3 (.tmp 36), 3, "ref.go:82", #[⟨10, .data⟩, ⟨3, .guard⟩], some (3, false)⟩ ?_ ?_ ?_
            rotate_left
            · (intro w_ hS_; (try dsimp only at hS_); obtain ⟨⟨⟨s1, s1'⟩, ⟨s2, s2'⟩, ⟨s3, s3'⟩, ⟨s4, s4'⟩, ⟨s5, s5'⟩, -⟩, ⟨s6, s6'⟩⟩ := hS_; go_simp; try with_reducible rfl)
            try simp only [Act.put, List.setIfInBounds_toArray, List.set_cons_zero, List.set_cons_succ, hc3]
            refine tk 12 ⟨some 38, .fieldAddr 63 (.tmp 5) 0, 0, "ref.go:82", #[⟨3, .guard⟩], some (3, false)⟩ ?_ ?_ ?_
            rotate_left
            · (intro _ _; go_simp; try with_reducible rfl)
            try simp only [Act.put, List.setIfInBounds_toArray, List.set_cons_zero, List.set_cons_succ, hc3]
            refine tk 13 ⟨some 39, .load 3 (.tmp 38), 3, "ref.go:82", #[⟨12, .data⟩, ⟨3, .guard⟩], some (3, false)⟩ ?_ ?_ ?_
            rotate_left
            · (intro w_ hS_; (try dsimp only at hS_); obtain ⟨⟨⟨s1, s1'⟩, ⟨s2, s2'⟩, ⟨s3, s3'⟩, ⟨s4, s4'⟩, ⟨s5, s5'⟩, -⟩, ⟨s6, s6'⟩⟩ := hS_; go_simp; try with_reducible rfl)
            try simp only [Act.put, List.setIfInBounds_toArray, List.set_cons_zero, List.set_cons_succ, hc3]
            refine wpAnyH_ready (rs := [14]) (by kernel_rfl) (by simp) ?_
            refine (AllReadyH.cons (o := ⟨some 40, .call ⟨.value (.func 49), #[.tmp 31, .tmp 35, .tmp 37, .tmp 39], #[3, 3, 3, 3]⟩, 4, "ref.go:82", #[⟨5, .data⟩, ⟨9, .data⟩, ⟨11, .data⟩, ⟨13, .data⟩, ⟨3, .chain⟩, ⟨3, .guard⟩], some (3, false)⟩) rfl (fun K hK => ?_) AllReadyH.nil)
            go_simp
            (have hq_ := hHeld; (try dsimp only at hq_))
            obtain ⟨hs_, hn_⟩ := hq_
            refine (rbefore_c _ _ _ _ _).mono ?_
            rw [hbf]
            rintro e u6 ⟨rfl, hb6⟩
            refine hK.out _ _ ⟨hs_.low hb6, hn_.below hb6 hn_.lt⟩ (fun hHeld => ?_)
            clear hs_ hn_ hb6
            clear hK K
            try simp only [Act.put, List.setIfInBounds_toArray, List.set_cons_zero, List.set_cons_succ, hc3]
            refine tk 15 ⟨some 41, .pick (.tmp 29) (.const (.bool true)) (.tmp 40), 4, "ref.go:82", #[⟨3, .data⟩, ⟨14, .data⟩], none⟩ ?_ ?_ ?_
            rotate_left
            · (intro _ _; go_simp; try with_reducible rfl)
            try simp only [Act.put, List.setIfInBounds_toArray, List.set_cons_zero, List.set_cons_succ, hc3]
            refine wpAnyH_done (by kernel_rfl) ?_ _
            (try dsimp only at hHeld)
            obtain ⟨hP6, hN6⟩ := hHeld
            have hP7 := hP6.drew.turn (c2 := ⟨id, y.f6, y.f5, true⟩) lg ll lo
            obtain ⟨⟨s1, s1'⟩, ⟨s2, s2'⟩, ⟨s3, s3'⟩, ⟨s4, s4'⟩, ⟨s5, s5'⟩, -⟩ := hP6
            obtain ⟨s6, s6'⟩ := hN6
            go_wp2_with fail
            go_region
            go_wp2
            go_roundw
            case rel => exact ⟨k + 1, by omega, congrArg (Value.int .i64) (by omega), by rw [hT2]; exact hP7⟩
            case measure => simp [intOf]; omega
          · have hT2 : best (ps.take (k + 1)) = cc := HT.out.trans (by unfold bst; simp [hc3, hbf])
            go_wp2_with fail
            refine wp_region_held_drew (S := (fun w' => PB r first d ob ids T cc w w' ∧ Row w' nb (vL y.l))) (by kernel_rfl) ⟨hP5.drew, hN5⟩ (fun hHeld => ?_)
            refine tk 0 ⟨some 26, .fieldAddr 63 (.tmp 5) 3, 0, "ref.go:82", #[], none⟩ ?_ ?_ ?_
            rotate_left
            · (intro _ _; go_simp; try with_reducible rfl)
            try simp only [Act.put, List.setIfInBounds_toArray, List.set_cons_zero, List.set_cons_succ, hc3]
            refine tk 1 ⟨some 27, .load 4 (.tmp 26), 4, "ref.go:82", #[⟨0, .data⟩], none⟩ ?_ ?_ ?_
            rotate_left
            · (intro w_ hS_; (try dsimp only at hS_); obtain ⟨⟨⟨s1, s1'⟩, ⟨s2, s2'⟩, ⟨s3, s3'⟩, ⟨s4, s4'⟩, ⟨s5, s5'⟩, -⟩, ⟨s6, s6'⟩⟩ := hS_; go_simp; try with_reducible rfl)
            try simp only [Act.put, List.setIfInBounds_toArray, List.set_cons_zero, List.set_cons_succ, hc3]
            refine tk 2 ⟨some 28, .unOp .not 4 (.tmp 27), 4, "ref.go:82", #[⟨1, .data⟩], none⟩ ?_ ?_ ?_
            rotate_left
            · (intro _ _; go_simp; try with_reducible rfl)
            try simp only [Act.put, List.setIfInBounds_toArray, List.set_cons_zero, List.set_cons_succ, hc3]
            refine tk 3 ⟨some 29, .move (.tmp 28), 4, "ref.go:82", #[⟨2, .data⟩], none⟩ ?_ ?_ ?_
            rotate_left
            · (intro _ _; go_simp; try with_reducible rfl)
            try simp only [Act.put, List.setIfInBounds_toArray, List.set_cons_zero, List.set_cons_succ, hc3]
            refine tk 4 ⟨some 30, .fieldAddr 33 (.tmp 7) 3, 0, "ref.go:82", #[⟨3, .guard⟩], some (3, false)⟩ ?_ ?_ ?_
            rotate_left
            · (intro _ _; go_simp; try with_reducible rfl)
            try simp only [Act.put, List.setIfInBounds_toArray, List.set_cons_zero, List.set_cons_succ, hc3]
            refine tk 5 ⟨some 31, .load 3 (.tmp 30), 3, "ref.go:82", #[⟨4, .data⟩, ⟨3, .guard⟩], some (3, false)⟩ ?_ ?_ ?_
            rotate_left
            · (intro w_ hS_; (try dsimp only at hS_); obtain ⟨⟨⟨s1, s1'⟩, ⟨s2, s2'⟩, ⟨s3, s3'⟩, ⟨s4, s4'⟩, ⟨s5, s5'⟩, -⟩, ⟨s6, s6'⟩⟩ := hS_; go_simp; try with_reducible rfl)
            try simp only [Act.put, List.setIfInBounds_toArray, List.set_cons_zero, List.set_cons_succ, hc3]
            refine tk 6 ⟨some 32, .move (.tmp 1), 51, "ref.go:82", #[⟨3, .guard⟩], some (3, false)⟩ ?_ ?_ ?_
            rotate_left
            · (intro _ _; go_simp; try with_reducible rfl)
            try simp only [Act.put, List.setIfInBounds_toArray, List.set_cons_zero, List.set_cons_succ, hc3]
            refine tk 7 ⟨some 33, .move (.tmp 6), 3, "ref.go:82", #[⟨3, .guard⟩], some (3, false)⟩ ?_ ?_ ?_
            rotate_left
            · (intro _ _; go_simp; try with_reducible rfl)
            try simp only [Act.put, List.setIfInBounds_toArray, List.set_cons_zero, List.set_cons_succ, hc3]
            refine tk 8 ⟨some 34, .indexAddr 51 (.tmp 32) (.tmp 33), 0, "ref.go:82", #[⟨6, .data⟩, ⟨7, .data⟩, ⟨3, .guard⟩], some (3, false)⟩ ?_ ?_ ?_
            rotate_left
            · (intro _ _; go_simp; try with_reducible rfl)
            try simp only [Act.put, List.setIfInBounds_toArray, List.set_cons_zero, List.set_cons_succ, hc3]
            refine tk 9 ⟨some 35, .load 3 (.tmp 34), 3, "ref.go:82", #[⟨8, .data⟩, ⟨3, .guard⟩], some (3, false)⟩ ?_ ?_ ?_
            rotate_left
            · (intro w_ hS_; (try dsimp only at hS_); obtain ⟨⟨⟨s1, s1'⟩, ⟨s2, s2'⟩, ⟨s3, s3'⟩, ⟨s4, s4'⟩, ⟨s5, s5'⟩, -⟩, ⟨s6, s6'⟩⟩ := hS_; go_simp; try with_reducible rfl)
            try simp only [Act.put, List.setIfInBounds_toArray, List.set_cons_zero, List.set_cons_succ, hc3]
            refine tk 10 ⟨some 36, .fieldAddr 63 (.tmp 5) 1, 0, "ref.go:82", #[⟨3, .guard⟩], some (3, false)⟩ ?_ ?_ ?_
            rotate_left
            · (intro _ _; go_simp; try with_reducible rfl)
            try simp only [Act.put, List.setIfInBounds_toArray, List.set_cons_zero, List.set_cons_succ, hc3]
            refine tk 11 ⟨some 37, .load 3 (.tmp 36), 3, "ref.go:82", #[⟨10, .data⟩, ⟨3, .guard⟩], some (3, false)⟩ ?_ ?_ ?_
            rotate_left
            · (intro w_ hS_; (try dsimp only at hS_); obtain ⟨⟨⟨s1, s1'⟩, ⟨s2, s2'⟩, ⟨s3, s3'⟩, ⟨s4, s4'⟩, ⟨s5, s5'⟩, -⟩, ⟨s6, s6'⟩⟩ := hS_; go_simp; try with_reducible rfl)
            try simp only [Act.put, List.setIfInBounds_toArray, List.set_cons_zero, List.set_cons_succ, hc3]
            refine tk 12 ⟨some 38, .fieldAddr 63 (.tmp 5) 0, 0, "ref.go:82", #[⟨3, .guard⟩], some (3, false)⟩ ?_ ?_ ?_
            rotate_left
            · (intro _ _; go_simp; try with_reducible rfl)
            try simp only [Act.put, List.setIfInBounds_toArray, List.set_cons_zero, List.set_cons_succ, hc3]
            refine tk 13 ⟨some 39, .load 3 (.tmp 38), 3, "ref.go:82", #[⟨12, .data⟩, ⟨3, .guard⟩], some (3, false)⟩ ?_ ?_ ?_
            rotate_left
            · (intro w_ hS_; (try dsimp only at hS_); obtain ⟨⟨⟨s1, s1'⟩, ⟨s2, s2'⟩, ⟨s3, s3'⟩, ⟨s4, s4'⟩, ⟨s5, s5'⟩, -⟩, ⟨s6, s6'⟩⟩ := hS_; go_simp; try with_reducible rfl)
            try simp only [Act.put, List.setIfInBounds_toArray, List.set_cons_zero, List.set_cons_succ, hc3]
            refine wpAnyH_ready (rs := [14]) (by kernel_rfl) (by simp) ?_
            refine (AllReadyH.cons (o := ⟨some 40, .call ⟨.value (.func 49), #[.tmp 31, .tmp 35, .tmp 37, .tmp 39], #[3, 3, 3, 3]⟩, 4, "ref.go:82", #[⟨5, .data⟩, ⟨9, .data⟩, ⟨11, .data⟩, ⟨13, .data⟩, ⟨3, .chain⟩, ⟨3, .guard⟩], some (3, false)⟩) rfl (fun K hK => ?_) AllReadyH.nil)
            go_simp
            (have hq_ := hHeld; (try dsimp only at hq_))
            obtain ⟨hs_, hn_⟩ := hq_
            refine (rbefore_c _ _ _ _ _).mono ?_
            rw [hbf]
            rintro e u6 ⟨rfl, hb6⟩
            refine hK.out _ _ ⟨hs_.low hb6, hn_.below hb6 hn_.lt⟩ (fun hHeld => ?_)
            clear hs_ hn_ hb6
            clear hK K
            try simp only [Act.put, List.setIfInBounds_toArray, List.set_cons_zero, List.set_cons_succ, hc3]
            refine tk 15 ⟨some 41, .pick (.tmp 29) (.const (.bool true)) (.tmp 40), 4, "ref.go:82", #[⟨3, .data⟩, ⟨14, .data⟩], none⟩ ?_ ?_ ?_
            rotate_left
            · (intro _ _; go_simp; try with_reducible rfl)
            try simp only [Act.put, List.setIfInBounds_toArray, List.set_cons_zero, List.set_cons_succ, hc3]
            refine wpAnyH_done (by kernel_rfl) ?_ _
            (try dsimp only at hHeld)
            obtain ⟨hP6, hN6⟩ := hHeld
            go_wp2
            go_roundw
            case rel => exact ⟨k + 1, by omega, congrArg (Value.int .i64) (by omega), by rw [hT2]; exact hP6⟩
            case measure => simp [intOf]; omega
        · have hT2 : best (ps.take (k + 1)) = ⟨id, y.f6, y.f5, true⟩ := HT.out.trans (by unfold bst; simp [hc3])
          go_wp2_with fail
          refine wp_region_held_drew (S := (fun w' => PB r first d ob ids T cc w w' ∧ Row w' nb (vL y.l))) (by kernel_rfl) ⟨hP5.drew, hN5⟩ (fun hHeld => ?_)
          refine tk 0 ⟨some 26, .fieldAddr 63 (.tmp 5) 3, 0, "ref.go:82", #[], none⟩ ?_ ?_ ?_
          rotate_left
          · (intro _ _; go_simp; try with_reducible rfl)
          try simp only [Act.put, List.setIfInBounds_toArray, List.set_cons_zero, List.set_cons_succ, hc3]
          refine tk 1 ⟨some 27, .load 4 (.tmp 26), 4, "ref.go:82", #[⟨0, .data⟩], none⟩ ?_ ?_ ?_
          rotate_left
          · (intro w_ hS_; (try dsimp only at hS_); obtain ⟨⟨⟨s1, s1'⟩, ⟨s2, s2'⟩, ⟨s3, s3'⟩, ⟨s4, s4'⟩, ⟨s5, s5'⟩, -⟩, ⟨s6, s6'⟩⟩ := hS_; go_simp; try with_reducible rfl)
          try simp only [Act.put, List.setIfInBounds_toArray, List.set_cons_zero, List.set_cons_succ, hc3]
          refine tk 2 ⟨some 28, .unOp .not 4 (.tmp 27), 4, "ref.go:82", #[⟨1, .data⟩], none⟩ ?_ ?_ ?_
          rotate_left
          · (intro _ _; go_simp; try with_reducible rfl)
          try simp only [Act.put, List.setIfInBounds_toArray, List.set_cons_zero, List.set_cons_succ, hc3]
          refine tk 3 ⟨some 29, .move (.tmp 28), 4, "ref.go:82", #[⟨2, .data⟩], none⟩ ?_ ?_ ?_
          rotate_left
          · (intro _ _; go_simp; try with_reducible rfl)
          try simp only [Act.put, List.setIfInBounds_toArray, List.set_cons_zero, List.set_cons_succ, hc3]
          refine tu 4 ⟨some 30, .fieldAddr 33 (.tmp 7) 3, 0, "ref.go:82", #[⟨3, .guard⟩], some (3, false)⟩ ?_
          try simp only [Act.put, List.setIfInBounds_toArray, List.set_cons_zero, List.set_cons_succ, hc3]
          refine tu 5 ⟨some 31, .load 3 (.tmp 30), 3, "ref.go:82", #[⟨4, .data⟩, ⟨3, .guard⟩], some (3, false)⟩ ?_
          try simp only [Act.put, List.setIfInBounds_toArray, List.set_cons_zero, List.set_cons_succ, hc3]
          refine tu 6 ⟨some 32, .move (.tmp 1), 51, "ref.go:82", #[⟨3, .guard⟩], some (3, false)⟩ ?_
          try simp only [Act.put, List.setIfInBounds_toArray, List.set_cons_zero, List.set_cons_succ, hc3]
          refine tu 7 ⟨some 33, .move (.tmp 6), 3, "ref.go:82", #[⟨3, .guard⟩], some (3, false)⟩ ?_
          try simp only [Act.put, List.setIfInBounds_toArray, List.set_cons_zero, List.set_cons_succ, hc3]
          refine tu 8 ⟨some 34, .indexAddr 51 (.tmp 32) (.tmp 33), 0, "ref.go:82", #[⟨6, .data⟩, ⟨7, .data⟩, ⟨3, .guard⟩], some (3, false)⟩ ?_
          try simp only [Act.put, List.setIfInBounds_toArray, List.set_cons_zero, List.set_cons_succ, hc3]
          refine tu 9 ⟨some 35, .load 3 (.tmp 34), 3, "ref.go:82", #[⟨8, .data⟩, ⟨3, .guard⟩], some (3, false)⟩ ?_
          try simp only [Act.put, List.setIfInBounds_toArray, List.set_cons_zero, List.set_cons_succ, hc3]
          refine tu 10 ⟨some 36, .fieldAddr 63 (.tmp 5) 1, 0, "ref.go:82", #[⟨3, .guard⟩], some (3, false)⟩ ?_
          try simp only [Act.put, List.setIfInBounds_toArray, List.set_cons_zero, List.set_cons_succ, hc3]
          refine tu 11 ⟨some 37, .load 3 (.tmp 36), 3, "ref.go:82", #[⟨10, .data⟩, ⟨3, .guard⟩], some (3, false)⟩ ?_
          try simp only [Act.put, List.setIfInBounds_toArray, List.set_cons_zero, List.set_cons_succ, hc3]
          refine tu 12 ⟨some 38, .fieldAddr 63 (.tmp 5) 0, 0, "ref.go:82", #[⟨3, .guard⟩], some (3, false)⟩ ?_
          try simp only [Act.put, List.setIfInBounds_toArray, List.set_cons_zero, List.set_cons_succ, hc3]
          refine tu 13 ⟨some 39, .load 3 (.tmp 38), 3, "ref.go:82", #[⟨12, .data⟩, ⟨3, .guard⟩], some (3, false)⟩ ?_
          try simp only [Act.put, List.setIfInBounds_toArray, List.set_cons_zero, List.set_cons_succ, hc3]
          refine tu 14 ⟨some 40, .call ⟨.value (.func 49), #[.tmp 31, .tmp 35, .tmp 37, .tmp 39], #[3, 3, 3, 3]⟩, 4, "ref.go:82", #[⟨5, .data⟩, ⟨9, .data⟩, ⟨11, .data⟩, ⟨13, .data⟩, ⟨3, .chain⟩, ⟨3, .guard⟩], some (3, false)⟩ ?_
          try simp only [Act.put, List.setIfInBounds_toArray, List.set_cons_zero, List.set_cons_succ, hc3]
          refine tk 15 ⟨some 41, .pick (.tmp 29) (.const (.bool true)) (.tmp 40), 4, "ref.go:82", #[⟨3, .data⟩, ⟨14, .data⟩], none⟩ ?_ ?_ ?_
          rotate_left
          · (intro _ _; go_simp; try with_reducible rfl)
          try simp only [Act.put, List.setIfInBounds_toArray, List.set_cons_zero, List.set_cons_succ, hc3]
          refine wpAnyH_done (by kernel_rfl) ?_ _
          (try dsimp only at hHeld)
          obtain ⟨hP6, hN6⟩ := hHeld
          generalize W5.drew = W6 at hP6 hN6 ⊢
          have hP7 := hP6.drew.turn (c2 := ⟨id, y.f6, y.f5, true⟩) lg ll lo
          obtain ⟨⟨s1, s1'⟩, ⟨s2, s2'⟩, ⟨s3, s3'⟩, ⟨s4, s4'⟩, ⟨s5, s5'⟩, -⟩ := hP6
          obtain ⟨s6, s6'⟩ := hN6
          go_wp2_with fail
          go_region
          go_wp2
          go_roundw
          case rel => exact ⟨k + 1, by omega, congrArg (Value.int .i64) (by omega), by rw [hT2]; exact hP7⟩
          case measure => simp [intOf]; omega
      · skip
        go_simp
        have hA_ := hHeld
        have nbr : Row (wr.drew.alloc (.cells #[.bool false, .bool false, .bool false, .bool false, .bool false, .int .i64 0, .int .i64 0] 33)) wr.heap.size #[.bool false, .bool false, .bool false, .bool false, .bool false, .int .i64 0, .int .i64 0] := Row.new _ _ _
        refine hK.out _ _ (hHeld.low ((Below.refl _ _).alloc (Nat.le_refl _) _)) (fun hHeld => ?_)
        clear hK K
        try simp only [Act.put, List.setIfInBounds_toArray, List.set_cons_zero, List.set_cons_succ]
        refine wpAnyH_ready (rs := [9]) (by kernel_rfl) (by simp) ?_
        refine (AllReadyH.cons (o := ⟨some 23, .call ⟨.value (.func 15), #[.tmp 18, .tmp 22], #[27, 3]⟩, 3, "ref.go:81", #[⟨4, .data⟩, ⟨8, .data⟩], none⟩) rfl (fun K hK => ?_) AllReadyH.nil)
        go_simp
        refine (HA2.out _ hHeld.g).mono ?_
        rintro e u1 ⟨rfl, hb1⟩
        have nb1 := nbr.below hb1 nbr.lt
        have hsz1 := hb1.size
        obtain ⟨nb1, nb1'⟩ := nb1
        refine hK.out _ _ (hHeld.low hb1) (fun hHeld => ?_)
        clear hK K
        try simp only [Act.put, List.setIfInBounds_toArray, List.set_cons_zero, List.set_cons_succ]
        refine tk 10 ⟨some 24, .indexAddr 75 (.tmp 17) (.tmp 23), 0, "ref.go:81", #[⟨3, .data⟩, ⟨9, .data⟩], none⟩ ?_ ?_ ?_
        rotate_left
        · (intro _ _; go_simp; try with_reducible rfl)
        try simp only [Act.put, List.setIfInBounds_toArray, List.set_cons_zero, List.set_cons_succ]
        refine tk 11 ⟨some 25, .load 33 (.tmp 24), 33, "ref.go:81", #[⟨10, .data⟩], none⟩ ?_ ?_ ?_
        rotate_left
        · (intro w_ hS_; obtain ⟨⟨s1, s1'⟩, ⟨s2, s2'⟩, ⟨s3, s3'⟩, ⟨s4, s4'⟩, ⟨s5, s5'⟩, -⟩ := hS_; go_simp; try with_reducible rfl)
        try simp only [Act.put, List.setIfInBounds_toArray, List.set_cons_zero, List.set_cons_succ]
        refine wpAnyH_ready (rs := [13]) (by kernel_rfl) (by simp) ?_
        refine (AllReadyH.cons (o := ⟨none, .store 33 (.tmp 7) (.tmp 25), 0, "ref.go:81", #[⟨12, .data⟩, ⟨11, .data⟩, ⟨9, .chain⟩, ⟨0, .phase⟩, ⟨1, .phase⟩, ⟨2, .phase⟩, ⟨3, .phase⟩, ⟨4, .phase⟩, ⟨5, .phase⟩, ⟨6, .phase⟩, ⟨7, .phase⟩, ⟨8, .phase⟩, ⟨9, .phase⟩, ⟨10, .phase⟩, ⟨11, .phase⟩, ⟨12, .phase⟩], none⟩) rfl (fun K hK => ?_) AllReadyH.nil)
        have hS_ := hHeld; obtain ⟨⟨s1, s1'⟩, ⟨s2, s2'⟩, ⟨s3, s3'⟩, ⟨s4, s4'⟩, ⟨s5, s5'⟩, -⟩ := hS_
        go_simp
        have hF_ := hA_.low (below_setRow (((Below.refl _ wr.drew).alloc (Nat.le_refl _) _).trans (hb1.mono (by simp))) (Nat.le_refl _) (vL y.l))
        refine hK.out _ _ hF_ (fun hHeld => ?_)
        clear hK K
        try simp only [Act.put, List.setIfInBounds_toArray, List.set_cons_zero, List.set_cons_succ]
        refine wpAnyH_done (by kernel_rfl) ?_ _
        (try dsimp only at hHeld)
        have hN_ : Row (u1.setRow wr.heap.size (vL y.l)) wr.heap.size (vL y.l) := Row.setRow nb1
        refine exit_named (fun W_ => PB r first d ob ids T cc w W_ ∧ Row W_ wr.heap.size (vL y.l)) ⟨hHeld, hN_⟩ ?_
        rintro W5 ⟨hP5, hN5⟩
        have hnb0 : w.heap.size + 1 < wr.heap.size := by omega
        generalize wr.heap.size = nb at *
        have HP5 := Lib.hid (And.intro hP5 hN5)
        clear hHeld hN_ hA_ hF_ hb1 s1 s1' nbr nb1 nb1' hsz1
        rcases Bool.eq_false_or_eq_true cc.f3 with hc3 | hc3
        · rcases Bool.eq_false_or_eq_true (bef y.f6 id cc.f1 cc.f0) with hbf | hbf
          · have hT2 : best (ps.take (k + 1)) = ⟨id, y.f6, y.f5, true⟩ := HT.out.trans (by unfold bst; simp [hc3, hbf])
            go_wp2_with fail
            refine wp_region_held_drew (S := (fun w' => PB r first d ob ids T cc w w' ∧ Row w' nb (vL y.l))) (by kernel_rfl) ⟨hP5.drew, hN5⟩ (fun hHeld => ?_)
            refine tk 0 ⟨some 26, .fieldAddr 63 (.tmp 5) 3, 0, "ref.go:82", #[], none⟩ ?_ ?_ ?_
            rotate_left
            · (intro _ _; go_simp; try with_reducible rfl)
            try simp only [Act.put, List.setIfInBounds_toArray, List.set_cons_zero, List.set_cons_succ, hc3]
            refine tk 1 ⟨some 27, .load 4 (.tmp 26), 4, "ref.go:82", #[⟨0, .data⟩], none⟩ ?_ ?_ ?_
            rotate_left
            · (intro w_ hS_; (try dsimp only at hS_); obtain ⟨⟨⟨s1, s1'⟩, ⟨s2, s2'⟩, ⟨s3, s3'⟩, ⟨s4, s4'⟩, ⟨s5, s5'⟩, -⟩, ⟨s6, s6'⟩⟩ := hS_; go_simp; try with_reducible rfl)
            try simp only [Act.put, List.setIfInBounds_toArray, List.set_cons_zero, List.set_cons_succ, hc3]
            refine tk 2 ⟨some 28, .unOp .not 4 (.tmp 27), 4, "ref.go:82", #[⟨1, .data⟩], none⟩ ?_ ?_ ?_
            rotate_left
            · (intro _ _; go_simp; try with_reducible rfl)
            try simp only [Act.put, List.setIfInBounds_toArray, List.set_cons_zero, List.set_cons_succ, hc3]
            refine tk 3 ⟨some 29, .move (.tmp 28), 4, "ref.go:82", #[⟨2, .data⟩], none⟩ ?_ ?_ ?_
            rotate_left
            · (intro _ _; go_simp; try with_reducible rfl)
            try simp only [Act.put, List.setIfInBounds_toArray, List.set_cons_zero, List.set_cons_succ, hc3]
            refine tk 4 ⟨some 30, .fieldAddr 33 (.tmp 7) 3, 0, "ref.go:82", #[⟨3, .guard⟩], some (3, false)⟩ ?_ ?_ ?_
            rotate_left
            · (intro _ _; go_simp; try with_reducible rfl)
            try simp only [Act.put, List.setIfInBounds_toArray, List.set_cons_zero, List.set_cons_succ, hc3]
            refine tk 5 ⟨some 31, .load 3 (.tmp 30), 3, "ref.go:82", #[⟨4, .data⟩, ⟨3, .guard⟩], some (3, false)⟩ ?_ ?_ ?_
            rotate_left
            · (intro w_ hS_; (try dsimp only at hS_); obtain ⟨⟨⟨s1, s1'⟩, ⟨s2, s2'⟩, ⟨s3, s3'⟩, ⟨s4, s4'⟩, ⟨s5, s5'⟩, -⟩, ⟨s6, s6'⟩⟩ := hS_; go_simp; try with_reducible rfl)
            try simp only [Act.put, List.setIfInBounds_toArray, List.set_cons_zero, List.set_cons_succ, hc3]
            refine tk 6 ⟨some 32, .move (.tmp 1), 51, "ref.go:82", #[⟨3, .guard⟩], some (3, false)⟩ ?_ ?_ ?_
            rotate_left
            · (intro _ _; go_simp; try with_reducible rfl)
            try simp only [Act.put, List.setIfInBounds_toArray, List.set_cons_zero, List.set_cons_succ, hc3]
            refine tk 7 ⟨some 33, .move (.tmp 6), 3, "ref.go:82", #[⟨3, .guard⟩], some (3, false)⟩ ?_ ?_ ?_
            rotate_left
            · (intro _ _; go_simp; try with_reducible rfl)
            try simp only [Act.put, List.setIfInBounds_toArray, List.set_cons_zero, List.set_cons_succ, hc3]
            refine tk 8 ⟨some 34, .indexAddr 51 (.tmp 32) (.tmp 33), 0, "ref.go:82", #[⟨6, .data⟩, ⟨7, .data⟩, ⟨3, .guard⟩], some (3, false)⟩ ?_ ?_ ?_
            rotate_left
            · (intro _ _; go_simp; try with_reducible rfl)
            try simp only [Act.put, List.setIfInBounds_toArray, List.set_cons_zero, List.set_cons_succ, hc3]
            refine tk 9 ⟨some 35, .load 3 (.tmp 34), 3, "ref.go:82", #[⟨8, .data⟩, ⟨3, .guard⟩], some (3, false)⟩ ?_ ?_ ?_
            rotate_left
            · (intro w_ hS_; (try dsimp only at hS_); obtain ⟨⟨⟨s1, s1'⟩, ⟨s2, s2'⟩, ⟨s3, s3'⟩, ⟨s4, s4'⟩, ⟨s5, s5'⟩, -⟩, ⟨s6, s6'⟩⟩ := hS_; go_simp; try with_reducible rfl)
            try simp only [Act.put, List.setIfInBounds_toArray, List.set_cons_zero, List.set_cons_succ, hc3]
            refine tk 10 ⟨some 36, .fieldAddr 63 (.tmp 5) 1, 0, "ref.go:82", #[⟨3, .guard⟩], some (3, false)⟩ ?_ ?_ ?_
            rotate_left
            · (intro _ _; go_simp; try with_reducible rfl)
            try simp only [Act.put, List.setIfInBounds_toArray, List.set_cons_zero, List.set_cons_succ, hc3]
            refine tk 11 ⟨some 37, .load 3 (.tmp 36), 3, "ref.go:82", #[⟨10, .data⟩, ⟨3, .guard⟩], some (3, false)⟩ ?_ ?_ ?_
            rotate_left
            · (intro w_ hS_; (try dsimp only at hS_); obtain ⟨⟨⟨s1, s1'⟩, ⟨s2, s2'⟩, ⟨s3, s3'⟩, ⟨s4, s4'⟩, ⟨s5, s5'⟩, -⟩, ⟨s6, s6'⟩⟩ := hS_; go_simp; try with_reducible rfl)
            try simp only [Act.put, List.setIfInBounds_toArray, List.set_cons_zero, List.set_cons_succ, hc3]
            refine tk 12 ⟨some 38, .fieldAddr 63 (.tmp 5) 0, 0, "ref.go:82", #[⟨3, .guard⟩], some (3, false)⟩ ?_ ?_ ?_
            rotate_left
            · (intro _ _; go_simp; try with_reducible rfl)
            try simp only [Act.put, List.setIfInBounds_toArray, List.set_cons_zero, List.set_cons_succ, hc3]
            refine tk 13 ⟨some 39, .load 3 (.tmp 38), 3, "ref.go:82", #[⟨12, .data⟩, ⟨3, .guard⟩], some (3, false)⟩ ?_ ?_ ?_
            rotate_left
            · (intro w_ hS_; (try dsimp only at hS_); obtain ⟨⟨⟨s1, s1'⟩, ⟨s2, s2'⟩, ⟨s3, s3'⟩, ⟨s4, s4'⟩, ⟨s5, s5'⟩, -⟩, ⟨s6, s6'⟩⟩ := hS_; go_simp; try with_reducible rfl)
            try simp only [Act.put, List.setIfInBounds_toArray, List.set_cons_zero, List.set_cons_succ, hc3]
            refine wpAnyH_ready (rs := [14]) (by kernel_rfl) (by simp) ?_
            refine (AllReadyH.cons (o := ⟨some 40, .call ⟨.value (.func 49), #[.tmp 31, .tmp 35, .tmp 37, .tmp 39], #[3, 3, 3, 3]⟩, 4, "ref.go:82", #[⟨5, .data⟩, ⟨9, .data⟩, ⟨11, .data⟩, ⟨13, .data⟩, ⟨3, .chain⟩, ⟨3, .guard⟩], some (3, false)⟩) rfl (fun K hK => ?_) AllReadyH.nil)
            go_simp
            (have hq_ := hHeld; (try dsimp only at hq_))
            obtain ⟨hs_, hn_⟩ := hq_
            refine (rbefore_c _ _ _ _ _).mono ?_
            rw [hbf]
            rintro e u6 ⟨rfl, hb6⟩
            refine hK.out _ _ ⟨hs_.low hb6, hn_.below hb6 hn_.lt⟩ (fun hHeld => ?_)
            clear hs_ hn_ hb6
            clear hK K
            try simp only [Act.put, List.setIfInBounds_toArray, List.set_cons_zero, List.set_cons_succ, hc3]
            refine tk 15 ⟨some 41, .pick (.tmp 29) (.const (.bool true)) (.tmp 40), 4, "ref.go:82", #[⟨3, .data⟩, ⟨14, .data⟩], none⟩ ?_ ?_ ?_
            rotate_left
            · (intro _ _; go_simp; try with_reducible rfl)
            try simp only [Act.put, List.setIfInBounds_toArray, List.set_cons_zero, List.set_cons_succ, hc3]
            refine wpAnyH_done (by kernel_rfl) ?_ _
            (try dsimp only at hHeld)
            obtain ⟨hP6, hN6⟩ := hHeld
            have hP7 := hP6.drew.turn (c2 := ⟨id, y.f6, y.f5, true⟩) lg ll lo
            obtain ⟨⟨s1, s1'⟩, ⟨s2, s2'⟩, ⟨s3, s3'⟩, ⟨s4, s4'⟩, ⟨s5, s5'⟩, -⟩ := hP6
            obtain ⟨s6, s6'⟩ := hN6
            go_wp2_with fail
            go_region
            go_wp2
            go_roundw
            case rel => exact ⟨k + 1, by omega, congrArg (Value.int .i64) (by omega), by rw [hT2]; exact hP7⟩
            case measure => simp [intOf]; omega
          · have hT2 : best (ps.take (k + 1)) = cc := HT.out.trans (by unfold bst; simp [hc3, hbf])
            go_wp2_with fail
            refine wp_region_held_drew (S := (fun w' => PB r first d ob ids T cc w w' ∧ Row w' nb (vL y.l))) (by kernel_rfl) ⟨hP5.drew, hN5⟩ (fun hHeld => ?_)
            refine tk 0 ⟨some 26, .fieldAddr 63 (.tmp 5) 3, 0, "ref.go:82", #[], none⟩ ?_ ?_ ?_
            rotate_left
            · (intro _ _; go_simp; try with_reducible rfl)
            try simp only [Act.put, List.setIfInBounds_toArray, List.set_cons_zero, List.set_cons_succ, hc3]
            refine tk 1 ⟨some 27, .load 4 (.tmp 26), 4, "ref.go:82", #[⟨0, .data⟩], none⟩ ?_ ?_ ?_
            rotate_left
            · (intro w_ hS_; (try dsimp only at hS_); obtain ⟨⟨⟨s1, s1'⟩, ⟨s2, s2'⟩, ⟨s3, s3'⟩, ⟨s4, s4'⟩, ⟨s5, s5'⟩, -⟩, ⟨s6, s6'⟩⟩ := hS_; go_simp; try with_reducible rfl)
            try simp only [Act.put, List.setIfInBounds_toArray, List.set_cons_zero, List.set_cons_succ, hc3]
            refine tk 2 ⟨some 28, .unOp .not 4 (.tmp 27), 4, "ref.go:82", #[⟨1, .data⟩], none⟩ ?_ ?_ ?_
            rotate_left
            · (intro _ _; go_simp; try with_reducible rfl)
            try simp only [Act.put, List.setIfInBounds_toArray, List.set_cons_zero, List.set_cons_succ, hc3]
            refine tk 3 ⟨some 29, .move (.tmp 28), 4, "ref.go:82", #[⟨2, .data⟩], none⟩ ?_ ?_ ?_
            rotate_left
            · (intro _ _; go_simp; try with_reducible rfl)
            try simp only [Act.put, List.setIfInBounds_toArray, List.set_cons_zero, List.set_cons_succ, hc3]
            refine tk 4 ⟨some 30, .fieldAddr 33 (.tmp 7) 3, 0, "ref.go:82", #[⟨3, .guard⟩], some (3, false)⟩ ?_ ?_ ?_
            rotate_left
            · (intro _ _; go_simp; try with_reducible rfl)
            try simp only [Act.put, List.setIfInBounds_toArray, List.set_cons_zero, List.set_cons_succ, hc3]
            refine tk 5 ⟨some 31, .load 3 (.tmp 30), 3, "ref.go:82", #[⟨4, .data⟩, ⟨3, .guard⟩], some (3, false)⟩ ?_ ?_ ?_
            rotate_left
            · (intro w_ hS_; (try dsimp only at hS_); obtain ⟨⟨⟨s1, s1'⟩, ⟨s2, s2'⟩, ⟨s3, s3'⟩, ⟨s4, s4'⟩, ⟨s5, s5'⟩, -⟩, ⟨s6, s6'⟩⟩ := hS_; go_simp; try with_reducible rfl)
            try simp only [Act.put, List.setIfInBounds_toArray, List.set_cons_zero, List.set_cons_succ, hc3]
            refine tk 6 ⟨some 32, .move (.tmp 1), 51, "ref.go:82", #[⟨3, .guard⟩], some (3, false)⟩ ?_ ?_ ?_
            rotate_left
            · (intro _ _; go_simp; try with_reducible rfl)
            try simp only [Act.put, List.setIfInBounds_toArray, List.set_cons_zero, List.set_cons_succ, hc3]
            refine tk 7 ⟨some 33, .move (.tmp 6), 3, "ref.go:82", #[⟨3, .guard⟩], some (3, false)⟩ ?_ ?_ ?_
            rotate_left
            · (intro _ _; go_simp; try with_reducible rfl)
            try simp only [Act.put, List.setIfInBounds_toArray, List.set_cons_zero, List.set_cons_succ, hc3]
            refine tk 8 ⟨some 34, .indexAddr 51 (.tmp 32) (.tmp 33), 0, "ref.go:82", #[⟨6, .data⟩, ⟨7, .data⟩, ⟨3, .guard⟩], some (3, false)⟩ ?_ ?_ ?_
            rotate_left
            · (intro _ _; go_simp; try with_reducible rfl)
            try simp only [Act.put, List.setIfInBounds_toArray, List.set_cons_zero, List.set_cons_succ, hc3]
            refine tk 9 ⟨some 35, .load 3 (.tmp 34), 3, "ref.go:82", #[⟨8, .data⟩, ⟨3, .guard⟩], some (3, false)⟩ ?_ ?_ ?_
            rotate_left
            · (intro w_ hS_; (try dsimp only at hS_); obtain ⟨⟨⟨s1, s1'⟩, ⟨s2, s2'⟩, ⟨s3, s3'⟩, ⟨s4, s4'⟩, ⟨s5, s5'⟩, -⟩, ⟨s6, s6'⟩⟩ := hS_; go_simp; try with_reducible rfl)
            try simp only [Act.put, List.setIfInBounds_toArray, List.set_cons_zero, List.set_cons_succ, hc3]
            refine tk 10 ⟨some 36, .fieldAddr 63 (.tmp 5) 1, 0, "ref.go:82", #[⟨3, .guard⟩], some (3, false)⟩ ?_ ?_ ?_
            rotate_left
            · (intro _ _; go_simp; try with_reducible rfl)
            try simp only [Act.put, List.setIfInBounds_toArray, List.set_cons_zero, List.set_cons_succ, hc3]
            refine tk 11 ⟨some 37, .load 3 (.tmp 36), 3, "ref.go:82", #[⟨10, .data⟩, ⟨3, .guard⟩], some (3, false)⟩ ?_ ?_ ?_
            rotate_left
            · (intro w_ hS_; (try dsimp only at hS_); obtain ⟨⟨⟨s1, s1'⟩, ⟨s2, s2'⟩, ⟨s3, s3'⟩, ⟨s4, s4'⟩, ⟨s5, s5'⟩, -⟩, ⟨s6, s6'⟩⟩ := hS_; go_simp; try with_reducible rfl)
            try simp only [Act.put, List.setIfInBounds_toArray, List.set_cons_zero, List.set_cons_succ, hc3]
            refine tk 12 ⟨some 38, .fieldAddr 63 (.tmp 5) 0, 0, "ref.go:82", #[⟨3, .guard⟩], some (3, false)⟩ ?_ ?_ ?_
            rotate_left
            · (intro _ _; go_simp; try with_reducible rfl)
            try simp only [Act.put, List.setIfInBounds_toArray, List.set_cons_zero, List.set_cons_succ, hc3]
            refine tk 13 ⟨some 39, .load 3 (.tmp 38), 3, "ref.go:82", #[⟨12, .data⟩, ⟨3, .guard⟩], some (3, false)⟩ ?_ ?_ ?_
            rotate_left
            · (intro w_ hS_; (try dsimp only at hS_); obtain ⟨⟨⟨s1, s1'⟩, ⟨s2, s2'⟩, ⟨s3, s3'⟩, ⟨s4, s4'⟩, ⟨s5, s5'⟩, -⟩, ⟨s6, s6'⟩⟩ := hS_; go_simp; try with_reducible rfl)
            try simp only [Act.put, List.setIfInBounds_toArray, List.set_cons_zero, List.set_cons_succ, hc3]
            refine wpAnyH_ready (rs := [14]) (by kernel_rfl) (by simp) ?_
            refine (AllReadyH.cons (o := ⟨some 40, .call ⟨.value (.func 49), #[.tmp 31, .tmp 35, .tmp 37, .tmp 39], #[3, 3, 3, 3]⟩, 4, "ref.go:82", #[⟨5, .data⟩, ⟨9, .data⟩, ⟨11, .data⟩, ⟨13, .data⟩, ⟨3, .chain⟩, ⟨3, .guard⟩], some (3, false)⟩) rfl (fun K hK => ?_) AllReadyH.nil)
            go_simp
            (have hq_ := hHeld; (try dsimp only at hq_))
            obtain ⟨hs_, hn_⟩ := hq_
            refine (rbefore_c _ _ _ _ _).mono ?_
            rw [hbf]
            rintro e u6 ⟨rfl, hb6⟩
            refine hK.out _ _ ⟨hs_.low hb6, hn_.below hb6 hn_.lt⟩ (fun hHeld => ?_)
            clear hs_ hn_ hb6
            clear hK K
            try simp only [Act.put, List.setIfInBounds_toArray, List.set_cons_zero, List.set_cons_succ, hc3]
            refine tk 15 ⟨some 41, .pick (.tmp 29) (.const (.bool true)) (.tmp 40), 4, "ref.go:82", #[⟨3, .data⟩, ⟨14, .data⟩], none⟩ ?_ ?_ ?_
            rotate_left
            · (intro _ _; go_simp; try with_reducible rfl)
            try simp only [Act.put, List.setIfInBounds_toArray, List.set_cons_zero, List.set_cons_succ, hc3]
            refine wpAnyH_done (by kernel_rfl) ?_ _
            (try dsimp only at hHeld)
            obtain ⟨hP6, hN6⟩ := hHeld
            go_wp2
            go_roundw
            case rel => exact ⟨k + 1, by omega, congrArg (Value.int .i64) (by omega), by rw [hT2]; exact hP6⟩
            case measure => simp [intOf]; omega
        · have hT2 : best (ps.take (k + 1)) = ⟨id, y.f6, y.f5, true⟩ := HT.out.trans (by unfold bst; simp [hc3])
          go_wp2_with fail
          refine wp_region_held_drew (S := (fun w' => PB r first d ob ids T cc w w' ∧ Row w' nb (vL y.l))) (by kernel_rfl) ⟨hP5.drew, hN5⟩ (fun hHeld => ?_)
          refine tk 0 ⟨some 26, .fieldAddr 63 (.tmp 5) 3, 0, "ref.go:82", #[], none⟩ ?_ ?_ ?_
          rotate_left
          · (intro _ _; go_simp; try with_reducible rfl)
          try simp only [Act.put, List.setIfInBounds_toArray, List.set_cons_zero, List.set_cons_succ, hc3]
          refine tk 1 ⟨some 27, .load 4 (.tmp 26), 4, "ref.go:82", #[⟨0, .data⟩], none⟩ ?_ ?_ ?_
          rotate_left
          · (intro w_ hS_; (try dsimp only at hS_); obtain ⟨⟨⟨s1, s1'⟩, ⟨s2, s2'⟩, ⟨s3, s3'⟩, ⟨s4, s4'⟩, ⟨s5, s5'⟩, -⟩, ⟨s6, s6'⟩⟩ := hS_; go_simp; try with_reducible rfl)
          try simp only [Act.put, List.setIfInBounds_toArray, List.set_cons_zero, List.set_cons_succ, hc3]
          refine tk 2 ⟨some 28, .unOp .not 4 (.tmp 27), 4, "ref.go:82", #[⟨1, .data⟩], none⟩ ?_ ?_ ?_
          rotate_left
          · (intro _ _; go_simp; try with_reducible rfl)
          try simp only [Act.put, List.setIfInBounds_toArray, List.set_cons_zero, List.set_cons_succ, hc3]
          refine tk 3 ⟨some 29, .move (.tmp 28), 4, "ref.go:82", #[⟨2, .data⟩], none⟩ ?_ ?_ ?_
          rotate_left
          · (intro _ _; go_simp; try with_reducible rfl)
          try simp only [Act.put, List.setIfInBounds_toArray, List.set_cons_zero, List.set_cons_succ, hc3]
          refine tu 4 ⟨some 30, .fieldAddr 33 (.tmp 7) 3, 0, "ref.go:82", #[⟨3, .guard⟩], some (3, false)⟩ ?_
          try simp only [Act.put, List.setIfInBounds_toArray, List.set_cons_zero, List.set_cons_succ, hc3]
          refine tu 5 ⟨some 31, .load 3 (.tmp 30), 3, "ref.go:82", #[⟨4, .data⟩, ⟨3, .guard⟩], some (3, false)⟩ ?_
          try simp only [Act.put, List.setIfInBounds_toArray, List.set_cons_zero, List.set_cons_succ, hc3]
          refine tu 6 ⟨some 32, .move (.tmp 1), 51, "ref.go:82", #[⟨3, .guard⟩], some (3, false)⟩ ?_
          try simp only [Act.put, List.setIfInBounds_toArray, List.set_cons_zero, List.set_cons_succ, hc3]
          refine tu 7 ⟨some 33, .move (.tmp 6), 3, "ref.go:82", #[⟨3, .guard⟩], some (3, false)⟩ ?_
          try simp only [Act.put, List.setIfInBounds_toArray, List.set_cons_zero, List.set_cons_succ, hc3]
          refine tu 8 ⟨some 34, .indexAddr 51 (.tmp 32) (.tmp 33), 0, "ref.go:82", #[⟨6, .data⟩, ⟨7, .data⟩, ⟨3, .guard⟩], some (3, false)⟩ ?_
          try simp only [Act.put, List.setIfInBounds_toArray, List.set_cons_zero, List.set_cons_succ, hc3]
          refine tu 9 ⟨some 35, .load 3 (.tmp 34), 3, "ref.go:82", #[⟨8, .data⟩, ⟨3, .guard⟩], some (3, false)⟩ ?_
          try simp only [Act.put, List.setIfInBounds_toArray, List.set_cons_zero, List.set_cons_succ, hc3]
          refine tu 10 ⟨some 36, .fieldAddr 63 (.tmp 5) 1, 0, "ref.go:82", #[⟨3, .guard⟩], some (3, false)⟩ ?_
          try simp only [Act.put, List.setIfInBounds_toArray, List.set_cons_zero, List.set_cons_succ, hc3]
          refine tu 11 ⟨some 37, .load 3 (.tmp 36), 3, "ref.go:82", #[⟨10, .data⟩, ⟨3, .guard⟩], some (3, false)⟩ ?_
          try simp only [Act.put, List.setIfInBounds_toArray, List.set_cons_zero, List.set_cons_succ, hc3]
          refine tu 12 ⟨some 38, .fieldAddr 63 (.tmp 5) 0, 0, "ref.go:82", #[⟨3, .guard⟩], some (3, false)⟩ ?_
          try simp only [Act.put, List.setIfInBounds_toArray, List.set_cons_zero, List.set_cons_succ, hc3]
          refine tu 13 ⟨some 39, .load 3 (.tmp 38), 3, "ref.go:82", #[⟨12, .data⟩, ⟨3, .guard⟩], some (3, false)⟩ ?_
          try simp only [Act.put, List.setIfInBounds_toArray, List.set_cons_zero, List.set_cons_succ, hc3]
          refine tu 14 ⟨some 40, .call ⟨.value (.func 49), #[.tmp 31, .tmp 35, .tmp 37, .tmp 39], #[3, 3, 3, 3]⟩, 4, "ref.go:82", #[⟨5, .data⟩, ⟨9, .data⟩, ⟨11, .data⟩, ⟨13, .data⟩, ⟨3, .chain⟩, ⟨3, .guard⟩], some (3, false)⟩ ?_
          try simp only [Act.put, List.setIfInBounds_toArray, List.set_cons_zero, List.set_cons_succ, hc3]
          refine tk 15 ⟨some 41, .pick (.tmp 29) (.const (.bool true)) (.tmp 40), 4, "ref.go:82", #[⟨3, .data⟩, ⟨14, .data⟩], none⟩ ?_ ?_ ?_
          rotate_left
          · (intro _ _; go_simp; try with_reducible rfl)
          try simp only [Act.put, List.setIfInBounds_toArray, List.set_cons_zero, List.set_cons_succ, hc3]
          refine wpAnyH_done (by kernel_rfl) ?_ _
          (try dsimp only at hHeld)
          obtain ⟨hP6, hN6⟩ := hHeld
          generalize W5.drew = W6 at hP6 hN6 ⊢
          have hP7 := hP6.drew.turn (c2 := ⟨id, y.f6, y.f5, true⟩) lg ll lo
          obtain ⟨⟨s1, s1'⟩, ⟨s2, s2'⟩, ⟨s3, s3'⟩, ⟨s4, s4'⟩, ⟨s5, s5'⟩, -⟩ := hP6
          obtain ⟨s6, s6'⟩ := hN6
          go_wp2_with fail
          go_region
          go_wp2
          go_roundw
          case rel => exact ⟨k + 1, by omega, congrArg (Value.int .i64) (by omega), by rw [hT2]; exact hP7⟩
          case measure => simp [intOf]; omega
    · obtain rfl : k = ps.length := by omega
      have k2 : decide ((ps.length : Int) < ps.length) = false := decide_eq_false (by omega)
      rw [List.take_of_length_le (Nat.le_refl _)] at hP
      have HBP := Lib.hid hP.b
      obtain ⟨z1, z1'⟩ := hP.z
      obtain ⟨z2, z2'⟩ := hP.c
      have m4 : ¬ w.heap.size + 1 = w.heap.size := by omega
      clear hP HS HAt
      go_wp2_with fail
      exact bodyPost_ret (res_C (cs := vC (best ps)) rfl _ rfl ⟨by go_simp, by go_simp⟩ rfl) rfl ⟨rfl, by have := HBP.out; go_simp⟩
theorem rBest_nil (g c : Nat) (A : Option Addr) (w : World) : Calls Try.prog 32 #[.pointer (some ⟨g, 0, none⟩), .slice A 0 c] w fun e w' => e = .returned (.agg (vC zC)) ∧ Below w.heap.size w w' := by
  go_enter Try.func32, Try.ntmps32
  go_wp2
  go_loopw [6] (fun q wr => q = .int .i64 0 ∧ Row wr w.heap.size (vC zC) ∧ Row wr (w.heap.size + 1) (vC zC) ∧ Below w.heap.size w wr) (fun q _ => 0)
  case atStart =>
    have hb : Below w.heap.size w ((w.alloc (.cells #[.int .i64 0, .int .i64 0, .int .i64 0, .bool false] 63)).alloc (.cells #[.int .i64 0, .int .i64 0, .int .i64 0, .bool false] 63)) := ((Below.refl _ w).alloc (Nat.le_refl _) _).alloc (by simp) _
    exact ⟨rfl, ⟨by go_simp, by go_simp; rfl⟩, ⟨by go_simp, by go_simp; rfl⟩, hb⟩
  case round =>
    obtain ⟨rfl, ⟨z1, z1'⟩, ⟨z2, z2'⟩, hb⟩ := hrel
    have HBP := Lib.hid hb
    have m4 : ¬ w.heap.size + 1 = w.heap.size := by omega
    clear hb
    go_wp2_with fail
    exact bodyPost_ret (res_C (cs := vC zC) rfl _ rfl ⟨by go_simp, by go_simp⟩ rfl) rfl ⟨rfl, by have := HBP.out; go_simp⟩
theorem rBest_c (r : RSh) (first : Int) (d : List E) (ps : List (Int × E)) (A : Option Addr) (c : Nat) (w : World) (hR : RAt r first d w) (h0 : 0 ≤ first) (h1 : first + d.length ≤ 16384) (hI : IntsAt w A (ps.map (·.1))) (hl : ps.length ≤ 16384) (hps : ∀ p ∈ ps, p ∈ allL first d) :
    Calls Try.prog 32 #[.pointer (some ⟨r.g, 0, none⟩), .slice A ps.length c] w fun e w' => e = .returned (.agg (vC (best ps))) ∧ Below w.heap.size w w' := by
  rcases Nat.eq_zero_or_pos ps.length with hz | hz
  · have : ps = [] := List.length_eq_zero_iff.1 hz
    subst this
    exact rBest_nil r.g c A w
  · obtain ⟨ob, T, rfl, hr⟩ := hI (by rw [List.length_map]; exact hz)
    exact rBest_pos r first d ps ob c T w hR h0 h1 hr hl hps hz
end Go.Proofs.Ytbglgblngfbhbaa.Bk
