/- A bank is what the document's is. -/
import Derived.Test.YtbglgblngfbhbaaK22
namespace Go.Proofs.Ytbglgblngfbhbaa.Bk
open Go.RowKit Go.Shelf Go.Proofs.Ytbglgblngfbhbaa.IAll Go.Proofs.YtbglgblngfbhbaaW.PrintWords Go.Proofs.YtbglgblngfbhbaaW.PrintLast Go.Proofs.YtbglgblngfbhbaaW.PrintMore
set_option linter.unusedVariables false
set_option linter.unusedSectionVars false
set_option linter.unusedSimpArgs false
attribute [local go_sem] Oper.semAt_some cell_row frozen_row isRow_setCell_eq rowAt_setCell_same rowAt_setCell_other isRow_alloc_eq rowAt_alloc rowAt_new rowAt_new' isRow_setRow_eq rowAt_setRow_same rowAt_setRow_other isRow_drew rowAt_drew size_setRow_ size_drew_ blk_ptr aggOf_agg offv_ptr below_alloc_e below_setCell_e below_setRow_e below_refl_e below_drew_r isRow_drewN rowAt_drewN below_drewN_e le_add_r asideP_alloc_e asideP_setCell_e asideP_setRow_e asideP_drew_e asideP_drewN_e asideP_refl_e allOne_nil allOne_cons Value.oneCell' addr_at mid_FT vE_size vL_size vQ_size vC_size vS_size vP_size vE_one vL_one vQ_one vC_one vS_one vP_one mid_spl spl_size spl_spl mid_vE vE_ext4 vE_ext7 vE_ext8 vE_0 vE_1 vE_2 vE_3 vE_4 vE_5 vE_6 vE_7
attribute [local go_sem ↓] loadE storeE loadEm storeEm loadEg storeEg loadEmg storeEmg loadL storeL loadLm storeLm loadQ storeQ loadQm storeQm loadC storeC loadCg storeCg loadS storeS loadSm loadP storeP loadPm loadPg storePg 
set_option maxRecDepth 100000
attribute [local go_sem high] eqE eqC eqL

theorem vE_pop {x : E} : (vE x).pop = vL x.l := rfl
attribute [local go_sem] vE_pop
theorem allL_get (d : List E) : ∀ (first : Int) (k : Nat), (allL first d)[k]? = d[k]?.map fun e => (first + k, e) := by
  induction d with
  | nil => intro f k; simp [allL]
  | cons x r ih =>
    intro f k
    rw [allL]
    cases k with
    | zero => simp
    | succ k =>
      rw [List.getElem?_cons_succ, List.getElem?_cons_succ, ih]
      congr 1
      funext e
      rw [show f + 1 + (k : Int) = f + ((k + 1 : Nat) : Int) by omega]
theorem allL_mid {first : Int} {d : List E} {pre post : List (Int × E)} {x : Int × E} (h : allL first d = pre ++ x :: post) : ∃ y, d[pre.length]? = some y ∧ x = (first + pre.length, y) := by
  have h1 := allL_get d first pre.length
  rw [h, List.getElem?_append_right (Nat.le_refl _), Nat.sub_self, List.getElem?_cons_zero] at h1
  cases hd : d[pre.length]? with
  | none => rw [hd] at h1; cases h1
  | some y => rw [hd] at h1; exact ⟨y, rfl, by simpa using h1⟩
theorem BoxN.new' (w : World) (t : TypeId) (cs : Array Value) (n : Nat) (h : n = w.heap.size) : BoxN (w.alloc (.cells cs t)) n t cs := by subst h; exact BoxN.new w t cs
def IK (nb : Nat) (W9 : World) (pre : List (Int × E)) (X : World) : Prop := Boxed X nb 3 (.int .i64 pre.length) ∧ AsideP (fun k => k = nb) W9 X
theorem KeepC.aside1' {F : Nat → Prop} {n g : Nat} {X X' : World} (h : AsideP (fun k => k = g) X X') (hF : F g) : KeepC (CF F n) X X' :=
  ⟨h.size, fun k o hc hk _ => (h.block k (Array.getElem?_eq_some_iff.1 hk).1 (fun e => hc (.inr (by rw [e]; exact hF)))).trans hk⟩
theorem leave_box {fn : Func} {p : Tmp} {g D : Nat} {b : Bool} {R : Ending → World → Prop} {tmps : Array Value} {w : World} (hK : w.heap[D]? = some (.deferred (some []))) (hres : fn.results = #[.cell p 4]) (hp : tmps.getD p undef = .pointer (some ⟨g, 0, none⟩)) (hg : Row w g #[.bool b]) (hne : ¬ D = g) (hR : R (.returned (.bool b)) (w.putObj D (.deferred none))) :
    bodyPostM Fence.wide 0 Try.prog fn R .ret { tmps := tmps, defers := [{ target := .collected D, args := #[] }] } w := leave_bool hK hres hp hg.1 hg.2 hne hR
set_option maxHeartbeats 4000000 in
theorem alike_c (b : BSh) (r : RSh) (first : Int) (d : List E) (w : World) (hB : BAt b first d w) (hR : RAt r first d w) (h0 : 0 ≤ first) (h1 : first + d.length ≤ 16384) :
    Calls Try.prog 13 #[.pointer (some ⟨b.g, 0, none⟩), .pointer (some ⟨r.g, 0, none⟩)] w fun e w' => e = .returned (.bool true) ∧ Below w.heap.size w w' := by
  have lg := hB.gl
  have le := hB.el
  have lr := hR.gl
  have HB := Lib.hid hB
  have HR := Lib.hid hR
  clear hB hR
  refine calls_of_wide ?_
  refine callsIn_of_wp_marks Try.func13 rfl trivial ?_ rfl
  simp only [Try.ntmps13, List.size_toArray, List.length_cons, List.length_nil, Nat.reduceAdd, Nat.reduceSub, Array.replicate_succ, Array.replicate_zero, List.push_toArray, List.append_toArray, List.nil_append, List.cons_append]
  gi_wp2_with fail
  refine callsIn_named (fun W_ => Row W_ w.heap.size #[.pointer (some ⟨b.g, 0, none⟩)] ∧ Row W_ (w.heap.size + 1) #[.pointer (some ⟨r.g, 0, none⟩)] ∧ Row W_ (w.heap.size + 1 + 1) #[.bool false] ∧ Boxed W_ (w.heap.size + 1 + 1 + 1) 3 (.int .i64 0) ∧ Below w.heap.size w W_) (by refine ⟨⟨by go_simp, by go_simp⟩, ⟨by go_simp, by go_simp⟩, ⟨by go_simp, by go_simp⟩, ?_, (((((Below.refl _ w).alloc (Nat.le_refl _) _).alloc (by simp) _).alloc (by simp; omega) _).alloc (by simp; omega) _)⟩; exact BoxN.new' _ _ _ _ (by simp)) ?_
  rintro W3 ⟨q1, q2, q3, q4, hw3⟩
  have hB3 := HB.out.below hw3
  have hR3 := HR.out.below hw3
  have lq4 := q4.lt
  clear HB
  refine (in_of_calls (all_b b first d W3 hB3 h0 h1)).mono ?_
  rintro e W9 ⟨it, rfl, hit, hb9⟩
  obtain ⟨gf, lb, rfl, eg, hi⟩ := hit (fun k => k = w.heap.size + 1 + 1 + 1) (fun k hk => by subst hk; exact ⟨lq4, by omega⟩)
  have hw9 := hw3.trans (hb9.mono hw3.size)
  have hB9 := hB3.below hb9
  have hR9 := hR3.below hb9
  have p1 := q1.below hb9 q1.lt
  have p2 := q2.below hb9 q2.lt
  have p3 := q3.below hb9 q3.lt
  have p4 : Boxed W9 (w.heap.size + 1 + 1 + 1) 3 (.int .i64 0) := (hb9.block _ lq4).trans q4
  have lp4 := p4.lt
  have lg9 := hB9.gl
  have le9 := hB9.el
  have lr9 := hR9.gl
  have HB9 := Lib.hid hB9
  have HR9 := Lib.hid hR9
  have HP := Lib.hid (And.intro p1 (And.intro p2 p3))
  obtain ⟨nb, hnb⟩ : ∃ nb, w.heap.size + 1 + 1 + 1 = nb := ⟨_, rfl⟩
  have m1 : ¬ w.heap.size = nb := by omega
  have m2 : ¬ w.heap.size + 1 = nb := by omega
  have m3 : ¬ w.heap.size + 1 + 1 = nb := by omega
  have hnw : w.heap.size ≤ nb := by omega
  rw [hnb] at p4 lp4 lq4 hi
  have hlr : 0 < d.length → ¬ r.l = nb ∧ ¬ r.x = nb := fun hp => by
    have := HR.out.pos hp
    exact ⟨by have := this.2.2.1.lt; omega, by have := this.2.2.2.1.lt; omega⟩
  clear hit hw3 hB3 hR3 q1 q2 q3 q4 hB9 hR9 p1 p2 p3 hb9
  gi_wp2_with fail
  (try simp only [hnb])
  refine wp_range (Pv := NoCells) (fun _ h => h) rfl eg (hi W9.heap.size W9 (Nat.le_refl _) (Below.refl _ _)) (Below.refl _ _) (fun h k => h.trans k) (fun W l o o' _ h1 h2 => KeepC.put W l o o' h1 h2) (fun _ => rfl)
    (IK nb W9) (fun _ _ _ => False)
    ?hI (fun _ => OwnP.const _ _ (fun _ => False)) ⟨p4, .of_below (Below.refl _ _)⟩ ?round ?done ?stop
  case hI =>
    rintro pre X Y row ⟨k1, k5⟩ hg hr
    refine ⟨k1.kept hg (fun er => by have := (hr _ er.symm).1; omega), ?_⟩
    exact ⟨hg.os.trans k5.os, hg.tape.trans k5.tape, hg.output.trans k5.output, Nat.le_trans k5.size hg.size, fun k hk hn => (hg.block k (Nat.lt_of_lt_of_le hk k5.size) (fun er => by have := (hr k er.symm).1; omega)).trans (k5.block k hk hn)⟩
  case round =>
    rintro l pre x post X hxs hl hlt hI
    obtain ⟨y, hy, rfl⟩ := allL_mid hxs
    gi_wp2
    have hbe : Below X.heap.size X ((X.alloc (.cells #[.bool false, .bool false, .bool false, .bool false, .bool false, .int .i64 0, .int .i64 0, .string ⟨#[]⟩] 35)).setRow X.heap.size (vE y)) := below_setRow ((Below.refl _ X).alloc (Nat.le_refl _) _) (Nat.le_refl _) _
    have hI' := hI
    obtain ⟨hb, hA⟩ := hI'
    have lbx := hb.lt
    refine ⟨KeepsFrom.low hbe, KeepC.low hbe, ⟨(hbe.block _ lbx).trans hb, hA.low hbe⟩, ?_⟩
    have r7 : Row ((X.alloc (.cells #[.bool false, .bool false, .bool false, .bool false, .bool false, .int .i64 0, .int .i64 0, .string ⟨#[]⟩] 35)).setRow X.heap.size (vE y)) X.heap.size (vE y) := Row.setRow isRow_new
    have lX := hA.size
    clear hb hA hI hbe hl
    rintro X2 hg2
    have hs7 := hg2.size
    obtain ⟨d7, d7'⟩ := Row.kept r7 hg2 (by intro e; cases e; omega)
    clear r7 hg2 hlt
    rintro ⟨hb, hA⟩
    have hkn : pre.length < d.length := (List.getElem?_eq_some_iff.1 hy).1
    clear hxs
    obtain ⟨k, hkk⟩ : ∃ k, pre.length = k := ⟨_, rfl⟩
    rw [hkk] at hb hkn ⊢
    rw [hkk] at hy
    have HK := Lib.hid hkk
    clear hkk
    have hp : 0 < d.length := by omega
    have HBX := Lib.hid (HB9.out.aside hA (by omega) (by omega))
    have hR2 := HR9.out.aside hA (by omega) hlr
    obtain ⟨e1, e2, ⟨L1, L1'⟩, ⟨X1, X1'⟩, -, -, -⟩ := hR2.pos hp
    obtain ⟨R1, R1'⟩ := hR2.row
    rw [e1, e2] at R1'
    obtain ⟨P1, P1'⟩ := hA.row HP.out.1 m1
    obtain ⟨P2, P2'⟩ := hA.row HP.out.2.1 m2
    obtain ⟨N1, N1'⟩ := Row.of hb
    have hx7 : (FT eEL d r.T).extract (k * 7) (k * 7 + 7) = vL y.l := FT_ext eEL_len hy (Nat.le_refl _)
    have hs7' : k * 7 + 7 ≤ (FT eEL d r.T).size := by rw [FT_size eEL_len]; omega
    have hcx : (FT eEX d r.T')[k]? = some (.string y.f7) := by
      have := FT_at (T := r.T') eEX_len hy (show 0 < 1 by decide)
      rwa [show k * 1 + 0 = k by omega] at this
    have k0 : (0 : Int) ≤ k := by omega
    have k1 : (k : Int) < d.length := by omega
    have k2n : decide (d.length ≤ k) = false := decide_eq_false (by omega)
    have k2 : decide ((d.length : Int) ≤ k) = false := decide_eq_false (by omega)
    have w5 : IntKind.i64.wrap (first + (k : Int)) = first + k := IntWalk.i64_in _ (by omega)
    have w6 : IntKind.i64.wrap ((k : Int) + 1) = (k : Int) + 1 := IntWalk.i64_in _ (by omega)
    have HG := Lib.hid (fun (W : World) (h : BAt b first d W) => Get_hit b.g b.e b.c d.length first d b.T k y W rfl h.row h.ents hy h0 (wid_small (by omega) (by omega)))
    have HH := Lib.hid (fun (W : World) (h : BAt b first d W) => Has_b b first (first + k) d W h h0 (wid_small (by omega) (by omega)))
    rw [hasB_at hkn] at HH
    clear hR2 e1 e2 hy
    gi_wp2_with fail
    refine wpIn_region_held (S := (fun w' => Row w' nb #[.int .i64 (k : Int)] ∧ Row w' (w.heap.size + 1) #[.pointer (some ⟨r.g, 0, none⟩)] ∧ Row w' X.heap.size (vE y) ∧ Row w' r.g #[.int .i64 first, .slice (some ⟨r.l, 0, none⟩) d.length r.c, .slice (some ⟨r.x, 0, none⟩) d.length r.c'] ∧ Row w' r.l (FT eEL d r.T) ∧ Row w' r.x (FT eEX d r.T'))) (by kernel_rfl) (by kernel_rfl) (by rintro ⟨_, _, h_⟩; exact h_) ⟨⟨N1, N1'⟩, ⟨P2, P2'⟩, ⟨d7, d7'⟩, ⟨R1, R1'⟩, ⟨L1, L1'⟩, ⟨X1, X1'⟩⟩ (fun hHeld => ?_)
    refine wpAnyH_take (i := 0) (oi := ⟨some 14, .load 3 (.tmp 5), 3, "law.go:49", #[], none⟩) (v := ?_) rfl (by kernel_rfl) (by kernel_rfl) (by kernel_rfl) (fun _ _ _ h => h) (Or.inl ⟨by rfl, ?_⟩) (by assumption) ?_
    rotate_left
    · (intro w_ hS_; (try dsimp only at hS_); obtain ⟨⟨s1, s1'⟩, ⟨s2, s2'⟩, ⟨s3, s3'⟩, ⟨s4, s4'⟩, ⟨s5, s5'⟩, ⟨s6, s6'⟩⟩ := hS_; go_simp; try with_reducible rfl)
    try simp only [Act.put, List.setIfInBounds_toArray, List.set_cons_zero, List.set_cons_succ, k2n, w5, vE_pop]
    refine wpAnyH_take (i := 1) (oi := ⟨some 15, .load 27 (.tmp 3), 27, "law.go:49", #[], none⟩) (v := ?_) rfl (by kernel_rfl) (by kernel_rfl) (by kernel_rfl) (fun _ _ _ h => h) (Or.inl ⟨by rfl, ?_⟩) (by assumption) ?_
    rotate_left
    · (intro w_ hS_; (try dsimp only at hS_); obtain ⟨⟨s1, s1'⟩, ⟨s2, s2'⟩, ⟨s3, s3'⟩, ⟨s4, s4'⟩, ⟨s5, s5'⟩, ⟨s6, s6'⟩⟩ := hS_; go_simp; try with_reducible rfl)
    try simp only [Act.put, List.setIfInBounds_toArray, List.set_cons_zero, List.set_cons_succ, k2n, w5, vE_pop]
    refine wpAnyH_take (i := 2) (oi := ⟨some 16, .nilCheck (.tmp 15), 0, "law.go:49", #[⟨1, .data⟩], none⟩) (v := ?_) rfl (by kernel_rfl) (by kernel_rfl) (by kernel_rfl) (fun _ _ _ h => h) (Or.inl ⟨by rfl, ?_⟩) (by assumption) ?_
    rotate_left
    · (intro _ _; go_simp; try with_reducible rfl)
    try simp only [Act.put, List.setIfInBounds_toArray, List.set_cons_zero, List.set_cons_succ, k2n, w5, vE_pop]
    refine wpAnyH_take (i := 3) (oi := ⟨some 17, .fieldAddr 78 (.tmp 16) 1, 0, "law.go:49", #[⟨2, .data⟩], none⟩) (v := ?_) rfl (by kernel_rfl) (by kernel_rfl) (by kernel_rfl) (fun _ _ _ h => h) (Or.inl ⟨by rfl, ?_⟩) (by assumption) ?_
    rotate_left
    · (intro _ _; go_simp; try with_reducible rfl)
    try simp only [Act.put, List.setIfInBounds_toArray, List.set_cons_zero, List.set_cons_succ, k2n, w5, vE_pop]
    refine wpAnyH_take (i := 4) (oi := ⟨some 18, .load 75 (.tmp 17), 75, "law.go:49", #[⟨3, .data⟩], none⟩) (v := ?_) rfl (by kernel_rfl) (by kernel_rfl) (by kernel_rfl) (fun _ _ _ h => h) (Or.inl ⟨by rfl, ?_⟩) (by assumption) ?_
    rotate_left
    · (intro w_ hS_; (try dsimp only at hS_); obtain ⟨⟨s1, s1'⟩, ⟨s2, s2'⟩, ⟨s3, s3'⟩, ⟨s4, s4'⟩, ⟨s5, s5'⟩, ⟨s6, s6'⟩⟩ := hS_; go_simp; try with_reducible rfl)
    try simp only [Act.put, List.setIfInBounds_toArray, List.set_cons_zero, List.set_cons_succ, k2n, w5, vE_pop]
    refine wpAnyH_take (i := 5) (oi := ⟨some 19, .call ⟨.builtin .len, #[.tmp 18], #[75]⟩, 3, "law.go:49", #[⟨4, .data⟩], none⟩) (v := ?_) rfl (by kernel_rfl) (by kernel_rfl) (by kernel_rfl) (fun _ _ _ h => h) (Or.inl ⟨by rfl, ?_⟩) (by assumption) ?_
    rotate_left
    · (intro _ _; go_simp; try with_reducible rfl)
    try simp only [Act.put, List.setIfInBounds_toArray, List.set_cons_zero, List.set_cons_succ, k2n, w5, vE_pop]
    refine wpAnyH_take (i := 6) (oi := ⟨some 20, .binOp .geq 3 (.tmp 14) (.tmp 19) 3, 4, "law.go:49", #[⟨0, .data⟩, ⟨5, .data⟩], none⟩) (v := ?_) rfl (by kernel_rfl) (by kernel_rfl) (by kernel_rfl) (fun _ _ _ h => h) (Or.inl ⟨by rfl, ?_⟩) (by assumption) ?_
    rotate_left
    · (intro _ _; go_simp; try with_reducible rfl)
    try simp only [Act.put, List.setIfInBounds_toArray, List.set_cons_zero, List.set_cons_succ, k2n, w5, vE_pop]
    refine wpAnyH_take (i := 7) (oi := ⟨some 21, .move (.tmp 20), 4, "law.go:49", #[⟨6, .data⟩], none⟩) (v := ?_) rfl (by kernel_rfl) (by kernel_rfl) (by kernel_rfl) (fun _ _ _ h => h) (Or.inl ⟨by rfl, ?_⟩) (by assumption) ?_
    rotate_left
    · (intro _ _; go_simp; try with_reducible rfl)
    try simp only [Act.put, List.setIfInBounds_toArray, List.set_cons_zero, List.set_cons_succ, k2n, w5, vE_pop]
    refine wpAnyH_take (i := 8) (oi := ⟨some 22, .move (.tmp 6), 3, "law.go:49", #[⟨7, .guard⟩], some (7, false)⟩) (v := ?_) rfl (by kernel_rfl) (by kernel_rfl) (by kernel_rfl) (fun _ _ _ h => h) (Or.inl ⟨by rfl, ?_⟩) (by assumption) ?_
    rotate_left
    · (intro _ _; go_simp; try with_reducible rfl)
    try simp only [Act.put, List.setIfInBounds_toArray, List.set_cons_zero, List.set_cons_succ, k2n, w5, vE_pop]
    refine wpAnyH_take (i := 9) (oi := ⟨some 23, .load 27 (.tmp 3), 27, "law.go:49", #[⟨7, .guard⟩], some (7, false)⟩) (v := ?_) rfl (by kernel_rfl) (by kernel_rfl) (by kernel_rfl) (fun _ _ _ h => h) (Or.inl ⟨by rfl, ?_⟩) (by assumption) ?_
    rotate_left
    · (intro w_ hS_; (try dsimp only at hS_); obtain ⟨⟨s1, s1'⟩, ⟨s2, s2'⟩, ⟨s3, s3'⟩, ⟨s4, s4'⟩, ⟨s5, s5'⟩, ⟨s6, s6'⟩⟩ := hS_; go_simp; try with_reducible rfl)
    try simp only [Act.put, List.setIfInBounds_toArray, List.set_cons_zero, List.set_cons_succ, k2n, w5, vE_pop]
    refine wpAnyH_take (i := 10) (oi := ⟨some 24, .nilCheck (.tmp 23), 0, "law.go:49", #[⟨9, .data⟩, ⟨7, .guard⟩], some (7, false)⟩) (v := ?_) rfl (by kernel_rfl) (by kernel_rfl) (by kernel_rfl) (fun _ _ _ h => h) (Or.inl ⟨by rfl, ?_⟩) (by assumption) ?_
    rotate_left
    · (intro _ _; go_simp; try with_reducible rfl)
    try simp only [Act.put, List.setIfInBounds_toArray, List.set_cons_zero, List.set_cons_succ, k2n, w5, vE_pop]
    refine wpAnyH_take (i := 11) (oi := ⟨some 25, .fieldAddr 78 (.tmp 24) 0, 0, "law.go:49", #[⟨10, .data⟩, ⟨7, .guard⟩], some (7, false)⟩) (v := ?_) rfl (by kernel_rfl) (by kernel_rfl) (by kernel_rfl) (fun _ _ _ h => h) (Or.inl ⟨by rfl, ?_⟩) (by assumption) ?_
    rotate_left
    · (intro _ _; go_simp; try with_reducible rfl)
    try simp only [Act.put, List.setIfInBounds_toArray, List.set_cons_zero, List.set_cons_succ, k2n, w5, vE_pop]
    refine wpAnyH_take (i := 12) (oi := ⟨some 26, .load 3 (.tmp 25), 3, "law.go:49", #[⟨11, .data⟩, ⟨7, .guard⟩], some (7, false)⟩) (v := ?_) rfl (by kernel_rfl) (by kernel_rfl) (by kernel_rfl) (fun _ _ _ h => h) (Or.inl ⟨by rfl, ?_⟩) (by assumption) ?_
    rotate_left
    · (intro w_ hS_; (try dsimp only at hS_); obtain ⟨⟨s1, s1'⟩, ⟨s2, s2'⟩, ⟨s3, s3'⟩, ⟨s4, s4'⟩, ⟨s5, s5'⟩, ⟨s6, s6'⟩⟩ := hS_; go_simp; try with_reducible rfl)
    try simp only [Act.put, List.setIfInBounds_toArray, List.set_cons_zero, List.set_cons_succ, k2n, w5, vE_pop]
    refine wpAnyH_take (i := 13) (oi := ⟨some 27, .load 3 (.tmp 5), 3, "law.go:49", #[⟨7, .guard⟩], some (7, false)⟩) (v := ?_) rfl (by kernel_rfl) (by kernel_rfl) (by kernel_rfl) (fun _ _ _ h => h) (Or.inl ⟨by rfl, ?_⟩) (by assumption) ?_
    rotate_left
    · (intro w_ hS_; (try dsimp only at hS_); obtain ⟨⟨s1, s1'⟩, ⟨s2, s2'⟩, ⟨s3, s3'⟩, ⟨s4, s4'⟩, ⟨s5, s5'⟩, ⟨s6, s6'⟩⟩ := hS_; go_simp; try with_reducible rfl)
    try simp only [Act.put, List.setIfInBounds_toArray, List.set_cons_zero, List.set_cons_succ, k2n, w5, vE_pop]
    refine wpAnyH_take (i := 14) (oi := ⟨some 28, .binOp .add 3 (.tmp 26) (.tmp 27) 3, 3, "law.go:49", #[⟨12, .data⟩, ⟨13, .data⟩, ⟨7, .guard⟩], some (7, false)⟩) (v := ?_) rfl (by kernel_rfl) (by kernel_rfl) (by kernel_rfl) (fun _ _ _ h => h) (Or.inl ⟨by rfl, ?_⟩) (by assumption) ?_
    rotate_left
    · (intro _ _; go_simp; try with_reducible rfl)
    try simp only [Act.put, List.setIfInBounds_toArray, List.set_cons_zero, List.set_cons_succ, k2n, w5, vE_pop]
    refine wpAnyH_take (i := 15) (oi := ⟨some 29, .binOp .neq 3 (.tmp 22) (.tmp 28) 3, 4, "law.go:49", #[⟨8, .data⟩, ⟨14, .data⟩, ⟨7, .guard⟩], some (7, false)⟩) (v := ?_) rfl (by kernel_rfl) (by kernel_rfl) (by kernel_rfl) (fun _ _ _ h => h) (Or.inl ⟨by rfl, ?_⟩) (by assumption) ?_
    rotate_left
    · (intro _ _; go_simp; try with_reducible rfl)
    try simp only [Act.put, List.setIfInBounds_toArray, List.set_cons_zero, List.set_cons_succ, k2n, w5, vE_pop]
    refine wpAnyH_take (i := 16) (oi := ⟨some 30, .pick (.tmp 21) (.const (.bool true)) (.tmp 29), 4, "law.go:49", #[⟨7, .data⟩, ⟨15, .data⟩], none⟩) (v := ?_) rfl (by kernel_rfl) (by kernel_rfl) (by kernel_rfl) (fun _ _ _ h => h) (Or.inl ⟨by rfl, ?_⟩) (by assumption) ?_
    rotate_left
    · (intro _ _; go_simp; try with_reducible rfl)
    try simp only [Act.put, List.setIfInBounds_toArray, List.set_cons_zero, List.set_cons_succ, k2n, w5, vE_pop]
    refine wpAnyH_take (i := 17) (oi := ⟨some 31, .move (.tmp 30), 4, "law.go:49", #[⟨16, .data⟩, ⟨7, .chain⟩], none⟩) (v := ?_) rfl (by kernel_rfl) (by kernel_rfl) (by kernel_rfl) (fun _ _ _ h => h) (Or.inl ⟨by rfl, ?_⟩) (by assumption) ?_
    rotate_left
    · (intro _ _; go_simp; try with_reducible rfl)
    try simp only [Act.put, List.setIfInBounds_toArray, List.set_cons_zero, List.set_cons_succ, k2n, w5, vE_pop]
    refine wpAnyH_take (i := 18) (oi := ⟨some 32, .fieldAddr 35 (.tmp 7) 0, 0, "law.go:49", #[⟨17, .guard⟩], some (17, false)⟩) (v := ?_) rfl (by kernel_rfl) (by kernel_rfl) (by kernel_rfl) (fun _ _ _ h => h) (Or.inl ⟨by rfl, ?_⟩) (by assumption) ?_
    rotate_left
    · (intro _ _; go_simp; try with_reducible rfl)
    try simp only [Act.put, List.setIfInBounds_toArray, List.set_cons_zero, List.set_cons_succ, k2n, w5, vE_pop]
    refine wpAnyH_take (i := 19) (oi := ⟨some 33, .load 33 (.tmp 32), 33, "law.go:49", #[⟨18, .data⟩, ⟨17, .guard⟩], some (17, false)⟩) (v := ?_) rfl (by kernel_rfl) (by kernel_rfl) (by kernel_rfl) (fun _ _ _ h => h) (Or.inl ⟨by rfl, ?_⟩) (by assumption) ?_
    rotate_left
    · (intro w_ hS_; (try dsimp only at hS_); obtain ⟨⟨s1, s1'⟩, ⟨s2, s2'⟩, ⟨s3, s3'⟩, ⟨s4, s4'⟩, ⟨s5, s5'⟩, ⟨s6, s6'⟩⟩ := hS_; go_simp; try with_reducible rfl)
    try simp only [Act.put, List.setIfInBounds_toArray, List.set_cons_zero, List.set_cons_succ, k2n, w5, vE_pop]
    refine wpAnyH_take (i := 20) (oi := ⟨some 34, .load 27 (.tmp 3), 27, "law.go:49", #[⟨17, .guard⟩], some (17, false)⟩) (v := ?_) rfl (by kernel_rfl) (by kernel_rfl) (by kernel_rfl) (fun _ _ _ h => h) (Or.inl ⟨by rfl, ?_⟩) (by assumption) ?_
    rotate_left
    · (intro w_ hS_; (try dsimp only at hS_); obtain ⟨⟨s1, s1'⟩, ⟨s2, s2'⟩, ⟨s3, s3'⟩, ⟨s4, s4'⟩, ⟨s5, s5'⟩, ⟨s6, s6'⟩⟩ := hS_; go_simp; try with_reducible rfl)
    try simp only [Act.put, List.setIfInBounds_toArray, List.set_cons_zero, List.set_cons_succ, k2n, w5, vE_pop]
    refine wpAnyH_take (i := 21) (oi := ⟨some 35, .nilCheck (.tmp 34), 0, "law.go:49", #[⟨20, .data⟩, ⟨17, .guard⟩], some (17, false)⟩) (v := ?_) rfl (by kernel_rfl) (by kernel_rfl) (by kernel_rfl) (fun _ _ _ h => h) (Or.inl ⟨by rfl, ?_⟩) (by assumption) ?_
    rotate_left
    · (intro _ _; go_simp; try with_reducible rfl)
    try simp only [Act.put, List.setIfInBounds_toArray, List.set_cons_zero, List.set_cons_succ, k2n, w5, vE_pop]
    refine wpAnyH_take (i := 22) (oi := ⟨some 36, .fieldAddr 78 (.tmp 35) 1, 0, "law.go:49", #[⟨21, .data⟩, ⟨17, .guard⟩], some (17, false)⟩) (v := ?_) rfl (by kernel_rfl) (by kernel_rfl) (by kernel_rfl) (fun _ _ _ h => h) (Or.inl ⟨by rfl, ?_⟩) (by assumption) ?_
    rotate_left
    · (intro _ _; go_simp; try with_reducible rfl)
    try simp only [Act.put, List.setIfInBounds_toArray, List.set_cons_zero, List.set_cons_succ, k2n, w5, vE_pop]
    refine wpAnyH_take (i := 23) (oi := ⟨some 37, .load 75 (.tmp 36), 75, "law.go:49", #[⟨22, .data⟩, ⟨17, .guard⟩], some (17, false)⟩) (v := ?_) rfl (by kernel_rfl) (by kernel_rfl) (by kernel_rfl) (fun _ _ _ h => h) (Or.inl ⟨by rfl, ?_⟩) (by assumption) ?_
    rotate_left
    · (intro w_ hS_; (try dsimp only at hS_); obtain ⟨⟨s1, s1'⟩, ⟨s2, s2'⟩, ⟨s3, s3'⟩, ⟨s4, s4'⟩, ⟨s5, s5'⟩, ⟨s6, s6'⟩⟩ := hS_; go_simp; try with_reducible rfl)
    try simp only [Act.put, List.setIfInBounds_toArray, List.set_cons_zero, List.set_cons_succ, k2n, w5, vE_pop]
    refine wpAnyH_take (i := 24) (oi := ⟨some 38, .load 3 (.tmp 5), 3, "law.go:49", #[⟨17, .guard⟩], some (17, false)⟩) (v := ?_) rfl (by kernel_rfl) (by kernel_rfl) (by kernel_rfl) (fun _ _ _ h => h) (Or.inl ⟨by rfl, ?_⟩) (by assumption) ?_
    rotate_left
    · (intro w_ hS_; (try dsimp only at hS_); obtain ⟨⟨s1, s1'⟩, ⟨s2, s2'⟩, ⟨s3, s3'⟩, ⟨s4, s4'⟩, ⟨s5, s5'⟩, ⟨s6, s6'⟩⟩ := hS_; go_simp; try with_reducible rfl)
    try simp only [Act.put, List.setIfInBounds_toArray, List.set_cons_zero, List.set_cons_succ, k2n, w5, vE_pop]
    refine wpAnyH_take (i := 25) (oi := ⟨some 39, .indexAddr 75 (.tmp 37) (.tmp 38), 0, "law.go:49", #[⟨23, .data⟩, ⟨24, .data⟩, ⟨17, .guard⟩], some (17, false)⟩) (v := ?_) rfl (by kernel_rfl) (by kernel_rfl) (by kernel_rfl) (fun _ _ _ h => h) (Or.inl ⟨by rfl, ?_⟩) (by assumption) ?_
    rotate_left
    · (intro _ _; go_simp; try with_reducible rfl)
    try simp only [Act.put, List.setIfInBounds_toArray, List.set_cons_zero, List.set_cons_succ, k2n, w5, vE_pop]
    refine wpAnyH_take (i := 26) (oi := ⟨some 40, .load 33 (.tmp 39), 33, "law.go:49", #[⟨25, .data⟩, ⟨17, .guard⟩], some (17, false)⟩) (v := ?_) rfl (by kernel_rfl) (by kernel_rfl) (by kernel_rfl) (fun _ _ _ h => h) (Or.inl ⟨by rfl, ?_⟩) (by assumption) ?_
    rotate_left
    · (intro w_ hS_; (try dsimp only at hS_); obtain ⟨⟨s1, s1'⟩, ⟨s2, s2'⟩, ⟨s3, s3'⟩, ⟨s4, s4'⟩, ⟨s5, s5'⟩, ⟨s6, s6'⟩⟩ := hS_; go_simp; try with_reducible rfl)
    try simp only [Act.put, List.setIfInBounds_toArray, List.set_cons_zero, List.set_cons_succ, k2n, w5, vE_pop]
    refine wpAnyH_take (i := 27) (oi := ⟨some 41, .binOp .neq 33 (.tmp 33) (.tmp 40) 33, 4, "law.go:49", #[⟨19, .data⟩, ⟨26, .data⟩, ⟨17, .guard⟩], some (17, false)⟩) (v := ?_) rfl (by kernel_rfl) (by kernel_rfl) (by kernel_rfl) (fun _ _ _ h => h) (Or.inl ⟨by rfl, ?_⟩) (by assumption) ?_
    rotate_left
    · (intro _ _; go_simp; try with_reducible rfl)
    try simp only [Act.put, List.setIfInBounds_toArray, List.set_cons_zero, List.set_cons_succ, k2n, w5, vE_pop]
    refine wpAnyH_take (i := 28) (oi := ⟨some 42, .pick (.tmp 31) (.const (.bool true)) (.tmp 41), 4, "law.go:49", #[⟨17, .data⟩, ⟨27, .data⟩], none⟩) (v := ?_) rfl (by kernel_rfl) (by kernel_rfl) (by kernel_rfl) (fun _ _ _ h => h) (Or.inl ⟨by rfl, ?_⟩) (by assumption) ?_
    rotate_left
    · (intro _ _; go_simp; try with_reducible rfl)
    try simp only [Act.put, List.setIfInBounds_toArray, List.set_cons_zero, List.set_cons_succ, k2n, w5, vE_pop]
    refine wpAnyH_take (i := 29) (oi := ⟨some 43, .move (.tmp 42), 4, "law.go:49", #[⟨28, .data⟩, ⟨17, .chain⟩], none⟩) (v := ?_) rfl (by kernel_rfl) (by kernel_rfl) (by kernel_rfl) (fun _ _ _ h => h) (Or.inl ⟨by rfl, ?_⟩) (by assumption) ?_
    rotate_left
    · (intro _ _; go_simp; try with_reducible rfl)
    try simp only [Act.put, List.setIfInBounds_toArray, List.set_cons_zero, List.set_cons_succ, k2n, w5, vE_pop]
    refine wpAnyH_take (i := 30) (oi := ⟨some 44, .fieldAddr 35 (.tmp 7) 1, 0, "law.go:49", #[⟨29, .guard⟩], some (29, false)⟩) (v := ?_) rfl (by kernel_rfl) (by kernel_rfl) (by kernel_rfl) (fun _ _ _ h => h) (Or.inl ⟨by rfl, ?_⟩) (by assumption) ?_
    rotate_left
    · (intro _ _; go_simp; try with_reducible rfl)
    try simp only [Act.put, List.setIfInBounds_toArray, List.set_cons_zero, List.set_cons_succ, k2n, w5, vE_pop]
    refine wpAnyH_take (i := 31) (oi := ⟨some 45, .load 9 (.tmp 44), 9, "law.go:49", #[⟨30, .data⟩, ⟨29, .guard⟩], some (29, false)⟩) (v := ?_) rfl (by kernel_rfl) (by kernel_rfl) (by kernel_rfl) (fun _ _ _ h => h) (Or.inl ⟨by rfl, ?_⟩) (by assumption) ?_
    rotate_left
    · (intro w_ hS_; (try dsimp only at hS_); obtain ⟨⟨s1, s1'⟩, ⟨s2, s2'⟩, ⟨s3, s3'⟩, ⟨s4, s4'⟩, ⟨s5, s5'⟩, ⟨s6, s6'⟩⟩ := hS_; go_simp; try with_reducible rfl)
    try simp only [Act.put, List.setIfInBounds_toArray, List.set_cons_zero, List.set_cons_succ, k2n, w5, vE_pop]
    refine wpAnyH_take (i := 32) (oi := ⟨some 46, .load 27 (.tmp 3), 27, "law.go:49", #[⟨29, .guard⟩], some (29, false)⟩) (v := ?_) rfl (by kernel_rfl) (by kernel_rfl) (by kernel_rfl) (fun _ _ _ h => h) (Or.inl ⟨by rfl, ?_⟩) (by assumption) ?_
    rotate_left
    · (intro w_ hS_; (try dsimp only at hS_); obtain ⟨⟨s1, s1'⟩, ⟨s2, s2'⟩, ⟨s3, s3'⟩, ⟨s4, s4'⟩, ⟨s5, s5'⟩, ⟨s6, s6'⟩⟩ := hS_; go_simp; try with_reducible rfl)
    try simp only [Act.put, List.setIfInBounds_toArray, List.set_cons_zero, List.set_cons_succ, k2n, w5, vE_pop]
    refine wpAnyH_take (i := 33) (oi := ⟨some 47, .nilCheck (.tmp 46), 0, "law.go:49", #[⟨32, .data⟩, ⟨29, .guard⟩], some (29, false)⟩) (v := ?_) rfl (by kernel_rfl) (by kernel_rfl) (by kernel_rfl) (fun _ _ _ h => h) (Or.inl ⟨by rfl, ?_⟩) (by assumption) ?_
    rotate_left
    · (intro _ _; go_simp; try with_reducible rfl)
    try simp only [Act.put, List.setIfInBounds_toArray, List.set_cons_zero, List.set_cons_succ, k2n, w5, vE_pop]
    refine wpAnyH_take (i := 34) (oi := ⟨some 48, .fieldAddr 78 (.tmp 47) 2, 0, "law.go:49", #[⟨33, .data⟩, ⟨29, .guard⟩], some (29, false)⟩) (v := ?_) rfl (by kernel_rfl) (by kernel_rfl) (by kernel_rfl) (fun _ _ _ h => h) (Or.inl ⟨by rfl, ?_⟩) (by assumption) ?_
    rotate_left
    · (intro _ _; go_simp; try with_reducible rfl)
    try simp only [Act.put, List.setIfInBounds_toArray, List.set_cons_zero, List.set_cons_succ, k2n, w5, vE_pop]
    refine wpAnyH_take (i := 35) (oi := ⟨some 49, .load 76 (.tmp 48), 76, "law.go:49", #[⟨34, .data⟩, ⟨29, .guard⟩], some (29, false)⟩) (v := ?_) rfl (by kernel_rfl) (by kernel_rfl) (by kernel_rfl) (fun _ _ _ h => h) (Or.inl ⟨by rfl, ?_⟩) (by assumption) ?_
    rotate_left
    · (intro w_ hS_; (try dsimp only at hS_); obtain ⟨⟨s1, s1'⟩, ⟨s2, s2'⟩, ⟨s3, s3'⟩, ⟨s4, s4'⟩, ⟨s5, s5'⟩, ⟨s6, s6'⟩⟩ := hS_; go_simp; try with_reducible rfl)
    try simp only [Act.put, List.setIfInBounds_toArray, List.set_cons_zero, List.set_cons_succ, k2n, w5, vE_pop]
    refine wpAnyH_take (i := 36) (oi := ⟨some 50, .load 3 (.tmp 5), 3, "law.go:49", #[⟨29, .guard⟩], some (29, false)⟩) (v := ?_) rfl (by kernel_rfl) (by kernel_rfl) (by kernel_rfl) (fun _ _ _ h => h) (Or.inl ⟨by rfl, ?_⟩) (by assumption) ?_
    rotate_left
    · (intro w_ hS_; (try dsimp only at hS_); obtain ⟨⟨s1, s1'⟩, ⟨s2, s2'⟩, ⟨s3, s3'⟩, ⟨s4, s4'⟩, ⟨s5, s5'⟩, ⟨s6, s6'⟩⟩ := hS_; go_simp; try with_reducible rfl)
    try simp only [Act.put, List.setIfInBounds_toArray, List.set_cons_zero, List.set_cons_succ, k2n, w5, vE_pop]
    refine wpAnyH_take (i := 37) (oi := ⟨some 51, .indexAddr 76 (.tmp 49) (.tmp 50), 0, "law.go:49", #[⟨35, .data⟩, ⟨36, .data⟩, ⟨29, .guard⟩], some (29, false)⟩) (v := ?_) rfl (by kernel_rfl) (by kernel_rfl) (by kernel_rfl) (fun _ _ _ h => h) (Or.inl ⟨by rfl, ?_⟩) (by assumption) ?_
    rotate_left
    · (intro _ _; go_simp; try with_reducible rfl)
    try simp only [Act.put, List.setIfInBounds_toArray, List.set_cons_zero, List.set_cons_succ, k2n, w5, vE_pop]
    refine wpAnyH_take (i := 38) (oi := ⟨some 52, .load 9 (.tmp 51), 9, "law.go:49", #[⟨37, .data⟩, ⟨29, .guard⟩], some (29, false)⟩) (v := ?_) rfl (by kernel_rfl) (by kernel_rfl) (by kernel_rfl) (fun _ _ _ h => h) (Or.inl ⟨by rfl, ?_⟩) (by assumption) ?_
    rotate_left
    · (intro w_ hS_; (try dsimp only at hS_); obtain ⟨⟨s1, s1'⟩, ⟨s2, s2'⟩, ⟨s3, s3'⟩, ⟨s4, s4'⟩, ⟨s5, s5'⟩, ⟨s6, s6'⟩⟩ := hS_; go_simp; try with_reducible rfl)
    try simp only [Act.put, List.setIfInBounds_toArray, List.set_cons_zero, List.set_cons_succ, k2n, w5, vE_pop]
    refine wpAnyH_take (i := 39) (oi := ⟨some 53, .binOp .neq 9 (.tmp 45) (.tmp 52) 9, 4, "law.go:49", #[⟨31, .data⟩, ⟨38, .data⟩, ⟨29, .guard⟩], some (29, false)⟩) (v := ?_) rfl (by kernel_rfl) (by kernel_rfl) (by kernel_rfl) (fun _ _ _ h => h) (Or.inl ⟨by rfl, ?_⟩) (by assumption) ?_
    rotate_left
    · (intro _ _; go_simp; try with_reducible rfl)
    try simp only [Act.put, List.setIfInBounds_toArray, List.set_cons_zero, List.set_cons_succ, k2n, w5, vE_pop]
    refine wpAnyH_take (i := 40) (oi := ⟨some 54, .pick (.tmp 43) (.const (.bool true)) (.tmp 53), 4, "law.go:49", #[⟨29, .data⟩, ⟨39, .data⟩], none⟩) (v := ?_) rfl (by kernel_rfl) (by kernel_rfl) (by kernel_rfl) (fun _ _ _ h => h) (Or.inl ⟨by rfl, ?_⟩) (by assumption) ?_
    rotate_left
    · (intro _ _; go_simp; try with_reducible rfl)
    try simp only [Act.put, List.setIfInBounds_toArray, List.set_cons_zero, List.set_cons_succ, k2n, w5, vE_pop]
    refine wpAnyH_done (by kernel_rfl) ?_ _
    (try dsimp only at hHeld)
    clear hHeld hs7' hx7 hcx R1 R1' L1 L1' X1 X1'
    gi_wp2_with fail
    refine (in_of_calls (HG.out X2.drew HBX.out.drew)).mono ?_
    rintro e V1 ⟨rfl, hv1⟩
    have lv1 : X2.heap.size ≤ V1.heap.size := hv1.size
    have lnb := hb.lt
    have t1 := (show Row X2.drew _ _ from (⟨P1, P1'⟩ : Row X2 _ _)).below hv1 (show w.heap.size < X2.heap.size by omega)
    have t2 := (show Row X2.drew _ _ from (⟨N1, N1'⟩ : Row X2 _ _)).below hv1 lnb
    have t3 := (show Row X2.drew _ _ from (⟨d7, d7'⟩ : Row X2 _ _)).below hv1 (show X.heap.size < X2.heap.size by simp at hs7; omega)
    have n1 : ¬ w.heap.size = V1.heap.size := by omega
    have n2 : ¬ nb = V1.heap.size := by omega
    have n3 : ¬ X.heap.size = V1.heap.size := by simp at hs7; omega
    have n4 : ¬ w.heap.size + 1 + 1 = V1.heap.size := by omega
    clear P1 P1' N1 N1' d7 d7'
    obtain ⟨T1, T1'⟩ := t1
    obtain ⟨T2, T2'⟩ := t2
    obtain ⟨T3, T3'⟩ := t3
    gi_wp2_with fail
    refine callsIn_named (fun W_ => Row W_ nb #[.int .i64 (k : Int)] ∧ Below V1.heap.size V1 W_) (by refine ⟨⟨by go_simp, by go_simp⟩, by go_simp⟩) ?_
    rintro V2 ⟨u2, hv2⟩
    have hx2 : Below X2.heap.size X2 V1 := (show Below X2.heap.size X2 X2.drew by go_simp).trans hv1
    have hx3 : Below X2.heap.size X2 V2 := hx2.trans (hv2.mono hx2.size)
    refine (in_of_calls (HH.out V2 (HBX.out.below hx3))).mono ?_
    rintro e V3 ⟨rfl, hv3⟩
    have hx4 : Below X2.heap.size X2 V3 := hx3.trans (hv3.mono hx3.size)
    obtain ⟨U3, U3'⟩ := u2.below hv3 u2.lt
    clear T1 T1' T2 T2' T3 T3' hx2 hx3 hv1 hv2 hv3 u2
    have HX := Lib.hid (And.intro hx4 (And.intro hb hA))
    clear hx4 hb hA
    gi_wp2_with fail
    obtain ⟨hx4, hb, hA⟩ := HX.out
    have hA2 : AsideP (fun k => k = nb) X2 (V3.setCell ⟨nb, 0, none⟩ (.int .i64 ((k : Int) + 1))) := by
      rw [asideP_setCell_e (P := fun k => k = nb) (p := ⟨nb, 0, none⟩) (.inl rfl)]
      exact .of_below hx4
    have hb3 : Boxed V3 nb 3 (.int .i64 k) := (hx4.block _ hb.lt).trans hb
    refine ⟨KeepsFrom.aside hA2 (fun k hk => by subst hk; exact lp4), KeepC.aside1' hA2 rfl, ?_, hA.trans hA2⟩
    rw [List.length_append, HK.out]
    exact hb3.set _
  case done =>
    rintro D X hD ⟨hb, hA⟩ hK
    rw [allL_length] at hb
    obtain ⟨P2, P2'⟩ := hA.row HP.out.2.1 m2
    obtain ⟨P3, P3'⟩ := hA.row HP.out.2.2 m3
    obtain ⟨R1, R1'⟩ := hA.row HR9.out.row (show ¬ r.g = nb by omega)
    obtain ⟨N1, N1'⟩ := Row.of hb
    have hwX : Below w.heap.size w X := hA.below hw9 (fun k h => by omega) hw9.size
    have hDX : D < X.heap.size := (Array.getElem?_eq_some_iff.1 hK).1
    have HF := Lib.hid (And.intro hK hwX)
    have hd1 : decide (d.length = d.length) = true := decide_eq_true rfl
    have hDn : ¬ D = w.heap.size + 1 + 1 := by omega
    clear hK hwX hA hb
    gi_wp2_with fail
    refine only_wide ?_
    go_region
    gi_wp2
    refine leave_bool (b := true) ((Below.heap_setCell X _ _ D hDn).trans HF.out.1) rfl rfl (by go_simp) (by go_simp) hDn ⟨rfl, below_putD (by have := HF.out.2; go_simp; try exact this) (by omega) _⟩
  case stop =>
    rintro D c pre x post X _ _ h _
    exact h.elim
end Go.Proofs.Ytbglgblngfbhbaa.Bk
