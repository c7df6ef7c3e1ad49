/- A bus with a span more. -/
import Derived.Test.YtjkbocejdjnfiaaM1
import Derived.Maps.AppendAt
namespace Go.Proofs.Ytjkbocejdjnfiaa.Bs
open Go.RowKit Go.Shelf Go.Proofs.Ytjkbocejdjnfiaa.IAll Go.Proofs.YtjkbocejdjnfiaaW.PrintWords Go.Proofs.YtjkbocejdjnfiaaW.PrintLast Go.Proofs.YtjkbocejdjnfiaaW.PrintMore
attribute [local go_sem] Oper.semAt_some cell_row frozen_row isRow_setCell_eq rowAt_setCell_same rowAt_setCell_other isRow_alloc_eq rowAt_alloc rowAt_new rowAt_new' isRow_setRow_eq rowAt_setRow_same rowAt_setRow_other isRow_drew rowAt_drew size_setRow_ size_drew_ blk_ptr aggOf_agg below_alloc_e below_setCell_e below_setRow_e below_refl_e below_drew_r isRow_drewN rowAt_drewN below_drewN_e le_add_r asideP_alloc_e asideP_setCell_e asideP_setRow_e asideP_drew_e asideP_drewN_e asideP_refl_e cell_setRow_far cell_setCell_far cell_drew_ heap_setCell_far heap_setRow_far heap_drew_ ES_size ES_one ES_fold ES_0 ES_1 allOne_nil allOne_cons Value.oneCell'
attribute [local go_sem ↓] loadS storeS loadSg storeSg
set_option maxRecDepth 100000 in
set_option maxHeartbeats 4000000 in
theorem clone_r (A : Option Addr) (n c : Nat) (d : List Sp) (w : World) (hr : Kd.C k33 w A n d) (hb : n ≤ 4398046511104) :
    Calls Try.prog 23 #[.slice A n c] w fun e w' => ∃ x, e = .returned x ∧ Kd.R k33 33 w' w.heap.size (fun _ => True) x d ∧ Below w.heap.size w w' := by
  have hn : d.length = n := Kd.C_len hr
  subst hn
  cases A with
  | none =>
    have h0 : d.length = 0 := by
      rcases Nat.eq_zero_or_pos d.length with h | h
      · exact h
      · obtain ⟨ad, e, -⟩ := hr.2.2 h
        cases e
    obtain rfl : d = [] := List.length_eq_zero_iff.1 h0
    have heq : ∀ W : World, (binOp .eql 22 (Value.slice none 0 c) (Value.slice none 0 0)).run Try.prog W = .ok (.bool true) W := fun W => eq_nil_nil W
    go_enter Try.func23, Try.ntmps23
    go_wp2
    go_ret
    exact ⟨_, rfl, Kd.R_nil _ _ _ _ _, Below.refl _ _⟩
  | some ad =>
    go_enter Try.func23, Try.ntmps23
    have heq : ∀ W : World, (binOp .eql 22 (Value.slice (some ad) d.length c) (Value.slice none 0 0)).run Try.prog W = .ok (.bool false) W := fun W => eq_nil_slice W
    have hC : Kd.C k33 (w.alloc (.cells #[] 33)) (some ad) d.length d := Kd.C_alloc hr _
    have hR0 : k33.R 33 (w.alloc (.cells #[] 33)) w.heap.size (fun _ => True) (.slice (some ⟨w.heap.size, 0, none⟩) 0 0) ([] : List Sp) := ⟨fun _ _ => trivial, [], World.ownsRow_lit w #[] 0 (Nat.le_refl _) (by decide) rfl, Reps.none _ _⟩
    have HC := Lib.hid hC
    have HR0 := Lib.hid hR0
    have hBa : Below w.heap.size w (w.alloc (.cells #[] 33)) := (Below.refl _ w).alloc (Nat.le_refl _) _
    clear hC hR0
    go_wp2_with (at_builtin; refine Kd.R_append_rows k33 (Rr := k33.K (w.alloc (.cells #[] 33))) (w0 := w) w.heap.size rfl _ _ 22 33 (.agg (ES z33)) 32 rfl Try.underlying22 infoL rfl (by decide) (by decide) _ ([] : List Sp) d (some ad) d.length c (fun _ => True) (fun _ => False) rfl rfl HR0.out HC.out (fun p cs hp => by rw [k33_open hp]; exact k33_mkM _ _ _ _) (fun _ h => h.elim) (fun _ _ => trivial) hBa (by simp) (by simp; omega) ?_; intro x_ w1 hR_ hb1 _ _; refine stop_in ?_)
    refine stop_out ?_
    rw [List.nil_append] at hR_
    have HR_ := Lib.hid hR_
    obtain ⟨A1, c1, he, -, -⟩ := Kd.R_reads hR_
    clear hBa hR_
    subst he
    go_wp2
    go_ret
    exact ⟨_, rfl, HR_.out, hb1⟩
/-- an append to a slice of one's own, in a drawn region -/
theorem opwp_R {ad : Addr} {o : Oper} {a : Act} {W : World} {next : Act → World → Prop} {Q : Exit → Act → World → Prop} {base : Nat} (x y : Operand)
    (ho : o.op = .call { callee := .builtin .append, args := #[x, y], argTypes := #[22, 22] })
    (v : Value) (xs : List Sp) (p : Sp) (hR : Kd.R k33 33 W base (fun _ => True) v xs) (hx : a.eval x = v) (hy : a.eval y = .slice (some ad) 1 1)
    (hc : ∀ j u, (EL' p)[j]? = some u → W.cell? (ad.add j) = some u) (hbase : base ≤ W.heap.size) (hl : (xs.length + 1) * 32 ≤ 140737488355328)
    (h : ∀ v1 w1, Kd.R k33 33 w1 base (fun _ => True) v1 (xs ++ [p]) → (∀ m w0, m ≤ base → Below m w0 W → Below m w0 w1) → next (a.put o.dst v1) w1) : Oper.wp Try.prog o a W next Q := by
  obtain ⟨i0, hi, hz0, hz1, hz2⟩ := info_parts infoL
  obtain ⟨h0, inner, hown, hr⟩ := hR
  obtain ⟨v1, w1, hrun, r1, r2, -, r4⟩ := run_append_own_at (P := Try.prog) W base 22 o.type 33 i0 _ 4 32 Try.underlying22 hi hz0 hz1 hz2 rfl (by decide) v xs.length inner hown ad 1 1 (EL' p) rfl hc (by simp [EL', Value.oneCell']) (by unfold maxLen; omega) hl hbase
  have hat : v1.ownBlock = v.ownBlock ∨ ∃ b, v1.ownBlock = some b ∧ W.heap.size ≤ b := by
    rcases r4 with h | h
    · exact .inl h
    · exact .inr ⟨_, h, Nat.le_refl _⟩
  unfold Oper.wp
  simp [execOp, ho, resolve, invoke, builtin, hx, hy, hrun, Result.andThen]
  refine h v1 w1 (Kd.R_appended h0 hr (k33_mkM W base (fun _ => False) p) (fun _ hk => hk.elim) (fun _ _ => trivial) r1 r2 hat) ?_
  exact fun m w0 hm hB => hB.grown r2 (Nat.le_trans hm hbase) (fun k hk => Nat.le_trans hm (own_base hown k hk))
theorem NewOut.low {w w1 w' : World} {n : Nat} {d : List Sp} {v : Value} {r : Int} (h : NewOut w w' n d v r) (hl : w1.heap.size ≤ w.heap.size) : NewOut w1 w' n d v r := by
  rcases h with h | ⟨hb, d', hp, hs, h | ⟨hn, hr, g, A', c', e, hg, hrow, hc, hC, hO⟩⟩
  · exact .inl h
  · exact .inr ⟨hb, d', hp, hs, .inl h⟩
  · refine .inr ⟨hb, d', hp, hs, .inr ⟨hn, hr, g, A', c', e, Nat.le_trans hl hg, hrow, hc, hC, fun h0 => ?_⟩⟩
    obtain ⟨ob, e, h1, h2⟩ := hO h0
    exact ⟨ob, e, Nat.le_trans hl h1, h2⟩
set_option maxRecDepth 100000 in
set_option maxHeartbeats 4000000 in
theorem With_c (A : Option Addr) (n c : Nat) (d : List Sp) (g : Nat) (s : Sp) (w : World) (hg : Row w g #[.slice A n c]) (hr : Kd.C k33 w A n d) (h32 : n ≤ 64) :
    Calls Try.prog 21 #[.pointer (some ⟨g, 0, none⟩), .agg (ES s)] w fun en w' => ∃ v r, en = .returned (.tuple #[v, .int .i64 r]) ∧ Below w.heap.size w w' ∧ NewOut w w' (n + 1) (d ++ [s]) v r := by
  have hn : d.length = n := Kd.C_len hr
  have lg := hg.lt
  have HN := Lib.hid hn
  go_enter Try.func21, Try.ntmps21
  have hz : Below w.heap.size w (w.alloc (.cells (ES s) 33)) := (Below.refl _ _).alloc (Nat.le_refl _) _
  have hg1 := hg.below hz lg
  have hr1 := Kd.C_below hr hz
  go_wp2_with fail
  refine wp_named (fun W_ => (isRow W_ w.heap.size ∧ rowAt W_ w.heap.size = ES s) ∧ Row W_ g #[.slice A n c] ∧ Kd.C k33 W_ A n d ∧ Below w.heap.size w W_) ⟨⟨by go_simp, by go_simp⟩, hg1, hr1, hz⟩ ?_
  rintro v1 ⟨⟨x1, x1'⟩, ⟨y1, y1'⟩, hC1, hB1⟩
  have l1 := x1.lt
  clear hz hg1 hr1 hg hr hn
  refine wp_region_held_drew (S := fun w' => (isRow w' w.heap.size ∧ rowAt w' w.heap.size = ES s) ∧ isRow w' g ∧ rowAt w' g = #[.slice A n c]) (by kernel_rfl) ⟨⟨x1, x1'⟩, y1, y1'⟩ (fun hHeld => ?_)
  have hd : Below v1.heap.size v1 v1.drew := below_drew0 (Below.refl _ v1)
  have HC := Lib.hid (Kd.C_below hC1 hd)
  have hBd := bk hB1 hB1.size hd
  have lv := hBd.size
  have ly := y1.lt
  clear hd hC1 hB1
  refine wpAnyH_take (i := 0) (oi := ⟨some 6, .move (.tmp 0), 24, "bus.go:97", #[], none⟩) (v := ?_) rfl (by kernel_rfl) (by kernel_rfl) (by kernel_rfl) (fun _ _ _ h => h) (Or.inl ⟨by rfl, ?_⟩) (by assumption) ?_
  rotate_left
  · (intro w_ hS_; (try dsimp only at hS_); go_simp; try with_reducible rfl)
  (try simp only [Act.put, List.setIfInBounds_toArray, List.set_cons_zero, List.set_cons_succ])
  refine wpAnyH_take (i := 1) (oi := ⟨some 7, .nilCheck (.tmp 6), 0, "bus.go:97", #[⟨0, .data⟩], none⟩) (v := ?_) rfl (by kernel_rfl) (by kernel_rfl) (by kernel_rfl) (fun _ _ _ h => h) (Or.inl ⟨by rfl, ?_⟩) (by assumption) ?_
  rotate_left
  · (intro w_ hS_; (try dsimp only at hS_); go_simp; try with_reducible rfl)
  (try simp only [Act.put, List.setIfInBounds_toArray, List.set_cons_zero, List.set_cons_succ])
  refine wpAnyH_take (i := 2) (oi := ⟨some 8, .fieldAddr 53 (.tmp 7) 0, 0, "bus.go:97", #[⟨1, .data⟩], none⟩) (v := ?_) rfl (by kernel_rfl) (by kernel_rfl) (by kernel_rfl) (fun _ _ _ h => h) (Or.inl ⟨by rfl, ?_⟩) (by assumption) ?_
  rotate_left
  · (intro w_ hS_; (try dsimp only at hS_); go_simp; try with_reducible rfl)
  (try simp only [Act.put, List.setIfInBounds_toArray, List.set_cons_zero, List.set_cons_succ])
  refine wpAnyH_take (i := 3) (oi := ⟨some 9, .load 22 (.tmp 8), 22, "bus.go:97", #[⟨2, .data⟩], none⟩) (v := ?_) rfl (by kernel_rfl) (by kernel_rfl) (by kernel_rfl) (fun _ _ _ h => h) (Or.inl ⟨by rfl, ?_⟩) (by assumption) ?_
  rotate_left
  · (intro w_ hS_; (try dsimp only at hS_); go_simp; try with_reducible rfl)
  (try simp only [Act.put, List.setIfInBounds_toArray, List.set_cons_zero, List.set_cons_succ])
  refine wpAnyH_take (i := 5) (oi := ⟨some 11, .load 33 (.tmp 3), 33, "bus.go:97", #[], none⟩) (v := ?_) rfl (by kernel_rfl) (by kernel_rfl) (by kernel_rfl) (fun _ _ _ h => h) (Or.inl ⟨by rfl, ?_⟩) (by assumption) ?_
  rotate_left
  · (intro w_ hS_; (try dsimp only at hS_); go_simp; try with_reducible rfl)
  (try simp only [Act.put, List.setIfInBounds_toArray, List.set_cons_zero, List.set_cons_succ])
  refine wpAnyH_ready (rs := [4, 6]) (by kernel_rfl) (by simp) ?_
  refine AllReadyH.cons (o := ⟨some 10, .call ⟨.value (.func 23), #[.tmp 9], #[22]⟩, 22, "bus.go:97", #[⟨3, .data⟩], none⟩) rfl (fun K hK => ?_) (AllReadyH.cons (o := ⟨some 12, .buildSlice 22 1 #[(0, .tmp 11)], 22, "bus.go:97", #[⟨5, .data⟩], none⟩) rfl (fun K hK => ?_) AllReadyH.nil)
  · skip
    (have hq_ := hHeld; (try dsimp only at hq_))
    obtain ⟨⟨P, P'⟩, Q, Q'⟩ := hq_
    go_simp
    refine (clone_r A n c d _ HC.out (by omega)).mono ?_
    rintro en u1 ⟨x1, rfl, hR, hb⟩
    refine hK.out _ _ ?_ (fun hHeld => ?_)
    · exact ⟨Row.step P P' hb, Row.step Q Q' hb⟩
    clear hK K P P' Q Q'
    (try simp only [Act.put, List.setIfInBounds_toArray, List.set_cons_zero, List.set_cons_succ])
    refine wpAnyH_ready (rs := [6]) (by kernel_rfl) (by simp) ?_
    refine AllReadyH.cons (o := ⟨some 12, .buildSlice 22 1 #[(0, .tmp 11)], 22, "bus.go:97", #[⟨5, .data⟩], none⟩) rfl (fun K hK => ?_) AllReadyH.nil
    (have hq_ := hHeld; (try dsimp only at hq_))
    obtain ⟨⟨P, P'⟩, Q, Q'⟩ := hq_
    go_simp
    have hz : Below u1.heap.size u1 (u1.alloc (.cells (ES s) 33)) := (Below.refl _ _).alloc (Nat.le_refl _) _
    refine hK.out _ _ ?_ (fun hHeld => ?_)
    · exact ⟨Row.step P P' hz, Row.step Q Q' hz⟩
    clear hK K P P' Q Q'
    (try simp only [Act.put, List.setIfInBounds_toArray, List.set_cons_zero, List.set_cons_succ])
    refine wpAnyH_ready (rs := [7]) (by kernel_rfl) (by simp) ?_
    refine AllReadyH.cons (o := ⟨some 13, .call ⟨.builtin .append, #[.tmp 10, .tmp 12], #[22, 22]⟩, 22, "bus.go:97", #[⟨4, .data⟩, ⟨6, .data⟩, ⟨4, .chain⟩], none⟩) rfl (fun K hK => ?_) AllReadyH.nil
    (have hq_ := hHeld; (try dsimp only at hq_))
    obtain ⟨⟨P, P'⟩, Q, Q'⟩ := hq_
    rw [if_pos (by kernel_rfl)]
    refine opwp_R (ad := ⟨u1.heap.size, 0, none⟩) (base := v1.drew.heap.size) (.tmp 10) (.tmp 12) rfl x1 d s (Kd.R_alloc hR _) rfl rfl (cell_four_new _ _ _) (by have := hb.size; simp at this ⊢; omega) (by rw [HN.out]; omega) (fun v2 w2 hR2 hb2 => ?_)
    have hBa : Below w.heap.size w w2 := hb2 _ _ (by simp; omega) (bk (bk hBd lv hb) (by have := hb.size; omega) hz)
    have hbb := hb2 _ _ (Nat.le_refl _) (Below.refl _ _)
    refine hK.out _ _ ?_ (fun hHeld => ?_)
    · exact ⟨Row.below ⟨P, P'⟩ hbb (by simp; omega), Row.below ⟨Q, Q'⟩ hbb (by simp; omega)⟩
    clear hK K P P' Q Q'
    (try simp only [Act.put, List.setIfInBounds_toArray, List.set_cons_zero, List.set_cons_succ])
    clear hb2 hbb
    obtain ⟨A5, c5, rfl, hc5, hC5⟩ := Kd.R_reads hR2
    refine wpAnyH_ready (rs := [8]) (by kernel_rfl) (by simp) ?_
    refine AllReadyH.cons (o := ⟨some 14, .call ⟨.value (.func 10), #[.tmp 13], #[22]⟩, 26, "bus.go:97", #[⟨7, .data⟩, ⟨7, .chain⟩], none⟩) rfl (fun K hK => ?_) AllReadyH.nil
    (have hq_ := hHeld; (try dsimp only at hq_))
    obtain ⟨⟨P, P'⟩, Q, Q'⟩ := hq_
    go_simp
    rw [List.length_append, List.length_singleton, HN.out] at hC5 hc5
    have HNw := Lib.hid (New_c A5 (n + 1) c5 (d ++ [s]) w2 hC5)
    simp only [HN.out]
    refine HNw.out.mono ?_
    rintro en w3 ⟨v, r, rfl, hb3, ho⟩
    have hBf : Below w.heap.size w w3 := bk hBa hBa.size hb3
    have hoo := NewOut.low ho hBa.size
    refine hK.out _ _ ?_ (fun hHeld => ?_)
    · exact ⟨Row.step P P' hb3, Row.step Q Q' hb3⟩
    clear hK K P P' Q Q'
    (try simp only [Act.put, List.setIfInBounds_toArray, List.set_cons_zero, List.set_cons_succ])
    refine wpAnyH_take (i := 9) (oi := ⟨some 15, .extract (.tmp 14) 0, 24, "bus.go:97", #[⟨8, .data⟩], none⟩) (v := ?_) rfl (by kernel_rfl) (by kernel_rfl) (by kernel_rfl) (fun _ _ _ h => h) (Or.inl ⟨by rfl, ?_⟩) (by assumption) ?_
    rotate_left
    · (intro w_ hS_; (try dsimp only at hS_); go_simp; try with_reducible rfl)
    (try simp only [Act.put, List.setIfInBounds_toArray, List.set_cons_zero, List.set_cons_succ])
    refine wpAnyH_take (i := 10) (oi := ⟨some 16, .extract (.tmp 14) 1, 25, "bus.go:97", #[⟨8, .data⟩], none⟩) (v := ?_) rfl (by kernel_rfl) (by kernel_rfl) (by kernel_rfl) (fun _ _ _ h => h) (Or.inl ⟨by rfl, ?_⟩) (by assumption) ?_
    rotate_left
    · (intro w_ hS_; (try dsimp only at hS_); go_simp; try with_reducible rfl)
    (try simp only [Act.put, List.setIfInBounds_toArray, List.set_cons_zero, List.set_cons_succ])
    refine wpAnyH_take (i := 11) (oi := ⟨some 4, .assign (.tmp 15), 24, "bus.go:97", #[⟨9, .data⟩, ⟨8, .chain⟩, ⟨0, .phase⟩, ⟨1, .phase⟩, ⟨2, .phase⟩, ⟨3, .phase⟩, ⟨4, .phase⟩, ⟨5, .phase⟩, ⟨6, .phase⟩, ⟨7, .phase⟩, ⟨8, .phase⟩, ⟨9, .phase⟩, ⟨10, .phase⟩], none⟩) (v := ?_) rfl (by kernel_rfl) (by kernel_rfl) (by kernel_rfl) (fun _ _ _ h => h) (Or.inl ⟨by rfl, ?_⟩) (by assumption) ?_
    rotate_left
    · (intro w_ hS_; (try dsimp only at hS_); go_simp; try with_reducible rfl)
    (try simp only [Act.put, List.setIfInBounds_toArray, List.set_cons_zero, List.set_cons_succ])
    refine wpAnyH_take (i := 12) (oi := ⟨some 5, .assign (.tmp 16), 25, "bus.go:97", #[⟨10, .data⟩, ⟨11, .chain⟩, ⟨0, .phase⟩, ⟨1, .phase⟩, ⟨2, .phase⟩, ⟨3, .phase⟩, ⟨4, .phase⟩, ⟨5, .phase⟩, ⟨6, .phase⟩, ⟨7, .phase⟩, ⟨8, .phase⟩, ⟨9, .phase⟩, ⟨10, .phase⟩, ⟨11, .phase⟩], none⟩) (v := ?_) rfl (by kernel_rfl) (by kernel_rfl) (by kernel_rfl) (fun _ _ _ h => h) (Or.inl ⟨by rfl, ?_⟩) (by assumption) ?_
    rotate_left
    · (intro w_ hS_; (try dsimp only at hS_); go_simp; try with_reducible rfl)
    (try simp only [Act.put, List.setIfInBounds_toArray, List.set_cons_zero, List.set_cons_succ])
    refine wpAnyH_done (by kernel_rfl) ?_ _
    clear HNw hC5 hR2 ho hb3 hHeld
    have HOO := Lib.hid hoo
    have HBF := Lib.hid hBf
    clear hoo hBf
    go_wp2
    refine bodyPost_ret (results_tmp2 rfl _ _ _) rfl ?_
    exact ⟨_, _, rfl, HBF.out, HOO.out⟩
  · skip
    (have hq_ := hHeld; (try dsimp only at hq_))
    obtain ⟨⟨P, P'⟩, Q, Q'⟩ := hq_
    go_simp
    have hz : Below v1.drew.heap.size v1.drew (v1.drew.alloc (.cells (ES s) 33)) := (Below.refl _ _).alloc (Nat.le_refl _) _
    refine hK.out _ _ ?_ (fun hHeld => ?_)
    · exact ⟨Row.step P P' hz, Row.step Q Q' hz⟩
    clear hK K P P' Q Q'
    (try simp only [Act.put, List.setIfInBounds_toArray, List.set_cons_zero, List.set_cons_succ])
    refine wpAnyH_ready (rs := [4]) (by kernel_rfl) (by simp) ?_
    refine AllReadyH.cons (o := ⟨some 10, .call ⟨.value (.func 23), #[.tmp 9], #[22]⟩, 22, "bus.go:97", #[⟨3, .data⟩], none⟩) rfl (fun K hK => ?_) AllReadyH.nil
    (have hq_ := hHeld; (try dsimp only at hq_))
    obtain ⟨⟨P, P'⟩, Q, Q'⟩ := hq_
    go_simp
    refine (clone_r A n c d _ (Kd.C_below HC.out hz) (by omega)).mono ?_
    rintro en u1 ⟨x1, rfl, hR, hb⟩
    refine hK.out _ _ ?_ (fun hHeld => ?_)
    · exact ⟨Row.step P P' hb, Row.step Q Q' hb⟩
    clear hK K P P' Q Q'
    (try simp only [Act.put, List.setIfInBounds_toArray, List.set_cons_zero, List.set_cons_succ])
    refine wpAnyH_ready (rs := [7]) (by kernel_rfl) (by simp) ?_
    refine AllReadyH.cons (o := ⟨some 13, .call ⟨.builtin .append, #[.tmp 10, .tmp 12], #[22, 22]⟩, 22, "bus.go:97", #[⟨4, .data⟩, ⟨6, .data⟩, ⟨4, .chain⟩], none⟩) rfl (fun K hK => ?_) AllReadyH.nil
    (have hq_ := hHeld; (try dsimp only at hq_))
    obtain ⟨⟨P, P'⟩, Q, Q'⟩ := hq_
    rw [if_pos (by kernel_rfl)]
    refine opwp_R (ad := ⟨v1.drew.heap.size, 0, none⟩) (base := (v1.drew.alloc (.cells (ES s) 33)).heap.size) (.tmp 10) (.tmp 12) rfl x1 d s hR rfl rfl (fun j u hj => cell_low (cell_four_new _ _ _ j u hj) hb) (hb.size) (by rw [HN.out]; omega) (fun v2 w2 hR2 hb2 => ?_)
    have hBa : Below w.heap.size w w2 := hb2 _ _ (by simp; omega) (bk (bk hBd lv hz) (by have := hz.size; omega) hb)
    have hbb := hb2 _ _ (Nat.le_refl _) (Below.refl _ _)
    refine hK.out _ _ ?_ (fun hHeld => ?_)
    · exact ⟨Row.below ⟨P, P'⟩ hbb (by simp; omega), Row.below ⟨Q, Q'⟩ hbb (by simp; omega)⟩
    clear hK K P P' Q Q'
    (try simp only [Act.put, List.setIfInBounds_toArray, List.set_cons_zero, List.set_cons_succ])
    clear hb2 hbb
    obtain ⟨A5, c5, rfl, hc5, hC5⟩ := Kd.R_reads hR2
    refine wpAnyH_ready (rs := [8]) (by kernel_rfl) (by simp) ?_
    refine AllReadyH.cons (o := ⟨some 14, .call ⟨.value (.func 10), #[.tmp 13], #[22]⟩, 26, "bus.go:97", #[⟨7, .data⟩, ⟨7, .chain⟩], none⟩) rfl (fun K hK => ?_) AllReadyH.nil
    (have hq_ := hHeld; (try dsimp only at hq_))
    obtain ⟨⟨P, P'⟩, Q, Q'⟩ := hq_
    go_simp
    rw [List.length_append, List.length_singleton, HN.out] at hC5 hc5
    have HNw := Lib.hid (New_c A5 (n + 1) c5 (d ++ [s]) w2 hC5)
    simp only [HN.out]
    refine HNw.out.mono ?_
    rintro en w3 ⟨v, r, rfl, hb3, ho⟩
    have hBf : Below w.heap.size w w3 := bk hBa hBa.size hb3
    have hoo := NewOut.low ho hBa.size
    refine hK.out _ _ ?_ (fun hHeld => ?_)
    · exact ⟨Row.step P P' hb3, Row.step Q Q' hb3⟩
    clear hK K P P' Q Q'
    (try simp only [Act.put, List.setIfInBounds_toArray, List.set_cons_zero, List.set_cons_succ])
    refine wpAnyH_take (i := 9) (oi := ⟨some 15, .extract (.tmp 14) 0, 24, "bus.go:97", #[⟨8, .data⟩], none⟩) (v := ?_) rfl (by kernel_rfl) (by kernel_rfl) (by kernel_rfl) (fun _ _ _ h => h) (Or.inl ⟨by rfl, ?_⟩) (by assumption) ?_
    rotate_left
    · (intro w_ hS_; (try dsimp only at hS_); go_simp; try with_reducible rfl)
    (try simp only [Act.put, List.setIfInBounds_toArray, List.set_cons_zero, List.set_cons_succ])
    refine wpAnyH_take (i := 10) (oi := ⟨some 16, .extract (.tmp 14) 1, 25, "bus.go:97", #[⟨8, .data⟩], none⟩) (v := ?_) rfl (by kernel_rfl) (by kernel_rfl) (by kernel_rfl) (fun _ _ _ h => h) (Or.inl ⟨by rfl, ?_⟩) (by assumption) ?_
    rotate_left
    · (intro w_ hS_; (try dsimp only at hS_); go_simp; try with_reducible rfl)
    (try simp only [Act.put, List.setIfInBounds_toArray, List.set_cons_zero, List.set_cons_succ])
    refine wpAnyH_take (i := 11) (oi := ⟨some 4, .assign (.tmp 15), 24, "bus.go:97", #[⟨9, .data⟩, ⟨8, .chain⟩, ⟨0, .phase⟩, ⟨1, .phase⟩, ⟨2, .phase⟩, ⟨3, .phase⟩, ⟨4, .phase⟩, ⟨5, .phase⟩, ⟨6, .phase⟩, ⟨7, .phase⟩, ⟨8, .phase⟩, ⟨9, .phase⟩, ⟨10, .phase⟩], none⟩) (v := ?_) rfl (by kernel_rfl) (by kernel_rfl) (by kernel_rfl) (fun _ _ _ h => h) (Or.inl ⟨by rfl, ?_⟩) (by assumption) ?_
    rotate_left
    · (intro w_ hS_; (try dsimp only at hS_); go_simp; try with_reducible rfl)
    (try simp only [Act.put, List.setIfInBounds_toArray, List.set_cons_zero, List.set_cons_succ])
    refine wpAnyH_take (i := 12) (oi := ⟨some 5, .assign (.tmp 16), 25, "bus.go:97", #[⟨10, .data⟩, ⟨11, .chain⟩, ⟨0, .phase⟩, ⟨1, .phase⟩, ⟨2, .phase⟩, ⟨3, .phase⟩, ⟨4, .phase⟩, ⟨5, .phase⟩, ⟨6, .phase⟩, ⟨7, .phase⟩, ⟨8, .phase⟩, ⟨9, .phase⟩, ⟨10, .phase⟩, ⟨11, .phase⟩], none⟩) (v := ?_) rfl (by kernel_rfl) (by kernel_rfl) (by kernel_rfl) (fun _ _ _ h => h) (Or.inl ⟨by rfl, ?_⟩) (by assumption) ?_
    rotate_left
    · (intro w_ hS_; (try dsimp only at hS_); go_simp; try with_reducible rfl)
    (try simp only [Act.put, List.setIfInBounds_toArray, List.set_cons_zero, List.set_cons_succ])
    refine wpAnyH_done (by kernel_rfl) ?_ _
    clear HNw hC5 hR2 ho hb3 hHeld
    have HOO := Lib.hid hoo
    have HBF := Lib.hid hBf
    clear hoo hBf
    go_wp2
    refine bodyPost_ret (results_tmp2 rfl _ _ _) rfl ?_
    exact ⟨_, _, rfl, HBF.out, HOO.out⟩
end Go.Proofs.Ytjkbocejdjnfiaa.Bs
