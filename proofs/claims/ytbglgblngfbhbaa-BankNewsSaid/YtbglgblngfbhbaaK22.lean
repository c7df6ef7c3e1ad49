/- The law BankGroups. -/
import Derived.Test.YtbglgblngfbhbaaK21
import Derived.Test.YtbglgblngfbhbaaTk
namespace Go.Proofs.Ytbglgblngfbhbaa.Bk
open Go.RowKit Go.Shelf Go.Proofs.Ytbglgblngfbhbaa.IAll Go.Proofs.YtbglgblngfbhbaaW.PrintWords Go.Proofs.YtbglgblngfbhbaaW.PrintLast Go.Proofs.YtbglgblngfbhbaaW.PrintMore
set_option linter.unusedVariables false
set_option linter.unusedSectionVars false
set_option linter.unusedSimpArgs false
attribute [local go_sem] Oper.semAt_some cell_row frozen_row isRow_setCell_eq rowAt_setCell_same rowAt_setCell_other isRow_alloc_eq rowAt_alloc rowAt_new rowAt_new' isRow_setRow_eq rowAt_setRow_same rowAt_setRow_other isRow_drew rowAt_drew size_setRow_ size_drew_ blk_ptr aggOf_agg offv_ptr below_alloc_e below_setCell_e below_setRow_e below_refl_e below_drew_r isRow_drewN rowAt_drewN below_drewN_e le_add_r asideP_alloc_e asideP_setCell_e asideP_setRow_e asideP_drew_e asideP_drewN_e asideP_refl_e allOne_nil allOne_cons Value.oneCell' addr_at mid_FT vE_size vL_size vQ_size vC_size vS_size vP_size vE_one vL_one vQ_one vC_one vS_one vP_one mid_spl spl_size spl_spl mid_vE vE_ext4 vE_ext7 vE_ext8 vE_0 vE_1 vE_2 vE_3 vE_4 vE_5 vE_6 vE_7
attribute [local go_sem ↓] loadE storeE loadEm storeEm loadEg storeEg loadEmg storeEmg loadL storeL loadLm storeLm loadQ storeQ loadQm storeQm loadC storeC loadCg storeCg loadS storeS loadSm loadP storeP loadPm loadPg storePg 
set_option maxRecDepth 100000
theorem only_wide {P : Program} {c : Code} {K : Act → World → Prop} {Q : Exit → Act → World → Prop} {n : Nat} {a : Act} {w : World} (h : c.wp P (Exit.then K (fun _ _ _ => False)) a w) : c.wpIn Fence.wide n P (Exit.then K Q) a w :=
  wpIn_mono (wpIn_wide.2 h) (fun e a w q => by cases e <;> first | exact q | exact q.elim)
theorem leave_bool {fn : Func} {p : Tmp} {g D : Nat} {b : Bool} {R : Ending → World → Prop} {tmps : Array Value} {w : World} (hK : w.heap[D]? = some (.deferred (some []))) (hres : fn.results = #[.cell p 4]) (hp : tmps.getD p undef = .pointer (some ⟨g, 0, none⟩)) (hg : isRow w g) (hg' : rowAt w g = #[.bool b]) (hne : ¬ D = g) (hR : R (.returned (.bool b)) (w.putObj D (.deferred none))) :
    bodyPostM Fence.wide 0 Try.prog fn R .ret { tmps := tmps, defers := [{ target := .collected D, args := #[] }] } w := by
  have hr : Row (w.putObj D (.deferred none)) g #[.bool b] := Row.same ⟨hg, hg'⟩ (World.putObj_heap_other (fun e => hne e.symm))
  have d1 : (w.putObj D (.deferred none)).cell? ⟨g, 0, none⟩ = some (.bool b) := by rw [cell_row hr.1, hr.2]; rfl
  exact leave_mark hK (v := .bool b) (by have hp' : tmps[p]?.getD undef = .pointer (some ⟨g, 0, none⟩) := by simpa using hp
                                         simp [results, hres, go_sem, hp', d1]) hR

theorem ready_b (b : BSh) (g0 g1 : Bool) (first : Int) (d : List E) (w : World) (h : BAt b first d w) (h0 : 0 ≤ first) (h1 : first + d.length ≤ 16384) (hg : goodD d) :
    Calls Try.prog 20 #[.pointer (some ⟨b.g, 0, none⟩), .agg #[.bool g0, .bool g1]] w fun e w' => ∃ v, e = .returned v ∧ (∀ F : Nat → Prop, (∀ k, F k → k < w.heap.size ∧ k ≠ b.g) → ItV F v (rdyL g0 g1 (allL first d)) w') ∧ Below w.heap.size w w' :=
  Ready_c b.g b.e b.c d.length g0 g1 first d b.T w rfl h0 h1 h.row h.ents (good_grp hg)
theorem rdy_len (g0 g1 : Bool) (first : Int) (d : List E) : (rdyL g0 g1 (allL first d)).length ≤ d.length := by
  unfold rdyL
  exact Nat.le_trans (List.length_filter_le _ _) (by rw [allL_length]; exact Nat.le_refl _)
/-- in both groups, and in one -/
theorem rdy_of0 {xs : List (Int × E)} (h : ∀ p ∈ xs, p.2.f5 = 0 ∨ p.2.f5 = 1) : (rdyL true true xs).filter (ofB 0) = rdyL true false xs := by
  unfold rdyL
  rw [List.filter_filter]
  refine List.filter_congr (fun p hp => ?_)
  rcases h p hp with e | e <;> simp [ofB, rdyB, gsel, e]
theorem rdy_of1 {xs : List (Int × E)} (h : ∀ p ∈ xs, p.2.f5 = 0 ∨ p.2.f5 = 1) : (rdyL true true xs).filter (ofB 1) = rdyL false true xs := by
  unfold rdyL
  rw [List.filter_filter]
  refine List.filter_congr (fun p hp => ?_)
  rcases h p hp with e | e <;> simp [ofB, rdyB, gsel, e]
theorem rdy_sum {xs : List (Int × E)} (h : ∀ p ∈ xs, p.2.f5 = 0 ∨ p.2.f5 = 1) : (rdyL true true xs).length = (rdyL true false xs).length + (rdyL false true xs).length := by
  induction xs with
  | nil => rfl
  | cons p r ih =>
    have ih' := ih (fun q hq => h q (List.mem_cons_of_mem _ hq))
    unfold rdyL at *
    have hp := h p List.mem_cons_self
    rw [List.filter_cons, List.filter_cons, List.filter_cons]
    rcases hp with e | e <;> cases h4 : p.2.f4 <;> cases h5 : ready p.2.q <;> simp [rdyB, gsel, e, h4, h5] <;> omega
theorem rdy_none (xs : List (Int × E)) : rdyL false false xs = [] := by
  unfold rdyL
  refine List.filter_eq_nil_iff.2 (fun p _ => ?_)
  simp [rdyB, gsel]
set_option maxHeartbeats 4000000 in
theorem groups_law (first m : Int) (A : Option Addr) (c : Nat) (xs : List S) (w : World) (h0 : 0 ≤ first) (h1 : first ≤ 255) (h2 : 0 ≤ m) (h3 : m ≤ 255) (hC : Kd.C kS w A xs.length xs) (hbig : xs.length ≤ 9223372036854775807) (hW : ∀ x ∈ xs, Wid x.f1) :
    Calls Try.prog 6 #[.int .u8 first, .int .u8 m, .slice A xs.length c] w fun e w' => e = .returned (.bool true) ∧ Below w.heap.size w w' := by
  refine calls_of_wide ?_
  refine callsIn_of_wp_marks Try.func6 rfl trivial ?_ rfl
  simp only [Try.ntmps6, List.size_toArray, List.length_cons, List.length_nil, Nat.reduceAdd, Nat.reduceSub, Array.replicate_succ, Array.replicate_zero, List.push_toArray, List.append_toArray, List.nil_append, List.cons_append]
  gi_wp2_with fail
  have hz0 : Row (w.alloc (.cells #[.bool false] 4)) w.heap.size #[.bool false] := Row.new _ _ _
  have hZ : Below w.heap.size w (w.alloc (.cells #[.bool false] 4)) := (Below.refl _ w).alloc (Nat.le_refl _) _
  refine (in_of_calls (awake_c _)).mono ?_
  rintro e v1 ⟨rfl, hB1'⟩
  have hr1 := hz0.below hB1' hz0.lt
  have hB1 : Below w.heap.size w v1 := hZ.trans (hB1'.mono hZ.size)
  have HPl := Lib.hid (played_c first m A c xs v1 h0 h1 h2 h3 (Kd.C_below hC hB1) hbig hW)
  have hn := nOf_lt m
  clear hC hz0 hZ hB1'
  gi_wp2_with fail
  refine (in_of_calls HPl.out).mono ?_
  rintro e v2 ⟨b, rfl, hb2, p1, p2, hB2'⟩
  have hr2 := hr1.below hB2' hr1.lt
  have lr := hr1.lt
  have hB2 : Below w.heap.size w v2 := hB1.trans (hB2'.mono hB1.size)
  have hgd := good_runA first xs (good_d0 m)
  have hlen : (runA first (d0 m) xs).length = nOf m := by rw [runA_len, d0_len]
  have hle : (runA first (d0 m) xs).length ≤ 63 := by omega
  generalize runA first (d0 m) xs = d at *
  clear HPl hlen hn hB1 hB2' hr1
  have HB2 := Lib.hid hb2
  clear hb2
  gi_wp2_with fail
  refine callsIn_named (fun W_ => Row W_ v2.heap.size #[.pointer (some ⟨b.g, 0, none⟩)] ∧ Below v2.heap.size v2 W_) (by refine ⟨⟨by go_simp, by go_simp⟩, by go_simp⟩) ?_
  rintro W3 ⟨hp3, hb3⟩
  have hB3 := HB2.out.below hb3
  have hr3 := hr2.below hb3 hr2.lt
  have hBw := hB2.trans (hb3.mono hB2.size)
  have lp : v2.heap.size < W3.heap.size := hp3.lt
  generalize v2.heap.size = pb at *
  clear HB2 hr2 hB2 hb3
  have HB3 := Lib.hid hB3
  have HR3 := Lib.hid hr3
  have HGD := Lib.hid hgd
  clear hB3 hr3 hgd
  refine (in_of_calls (ready_b b true true first d W3 HB3.out h0 (by omega) HGD.out)).mono ?_
  rintro e W4 ⟨it, rfl, hit, hb4⟩
  obtain ⟨gf, lb, rfl, eg, hi⟩ := hit (fun _ => False) (fun _ h => h.elim)
  have hIt : ItV (fun _ => False) (.func (.func gf) #[] lb) (rdyL true true (allL first d)) W4 := ⟨gf, lb, rfl, eg, hi⟩
  have HIt := Lib.hid hIt
  have hB4 := HB3.out.below hb4
  have hr4 := HR3.out.below hb4 HR3.out.lt
  obtain ⟨P4, P4'⟩ := hp3.below hb4 lp
  have hBw4 := hBw.trans (hb4.mono hBw.size)
  have lp4 : pb < W4.heap.size := P4.lt
  have HB4 := Lib.hid hB4
  have HR4 := Lib.hid hr4
  have hxg : ∀ p ∈ allL first d, p.2.f5 = 0 ∨ p.2.f5 = 1 := fun p hp => good_grp HGD.out _ (allL_mem hp)
  have hsum := rdy_sum hxg
  have hof0 := rdy_of0 hxg
  have hof1 := rdy_of1 hxg
  have L11 := rdy_len true true first d
  have L10 := rdy_len true false first d
  have L01 := rdy_len false true first d
  have HS := Lib.hid (And.intro hsum (And.intro hof0 hof1))
  clear hit hIt hi hB4 hr4 hb4 hp3 hBw HB3 HR3 hxg hsum hof0 hof1
  gi_wp2_with fail
  refine only_wide ?_
  refine wp_region_held_drew (S := (fun w' => Row w' pb #[.pointer (some ⟨b.g, 0, none⟩)] ∧ Below W4.heap.size W4 w')) (by kernel_rfl) ⟨⟨P4, P4'⟩, below_drew0 (Below.refl _ _)⟩ (fun hHeld => ?_)
  refine wpAnyH_take (i := 0) (oi := ⟨some 30, .load 23 (.tmp 8), 23, "law.go:157", #[], none⟩) (v := ?_) rfl (by kernel_rfl) (by kernel_rfl) (by kernel_rfl) (fun _ _ _ h => h) (Or.inl ⟨by rfl, ?_⟩) (by assumption) ?_
  rotate_left
  · (intro w_ hS_; (try dsimp only at hS_); obtain ⟨⟨s1, s1'⟩, -⟩ := hS_; go_simp; try with_reducible rfl)
  try simp only [Act.put, List.setIfInBounds_toArray, List.set_cons_zero, List.set_cons_succ]
  refine wpAnyH_take (i := 1) (oi := ⟨some 31, .build 50 #[(0, .const (.bool true)), (1, .const (.bool false))], 50, "law.go:157", #[], none⟩) (v := ?_) rfl (by kernel_rfl) (by kernel_rfl) (by kernel_rfl) (fun _ _ _ h => h) (Or.inl ⟨by rfl, ?_⟩) (by assumption) ?_
  rotate_left
  · (intro w_ hS_; (try dsimp only at hS_); obtain ⟨⟨s1, s1'⟩, -⟩ := hS_; go_simp; try with_reducible rfl)
  try simp only [Act.put, List.setIfInBounds_toArray, List.set_cons_zero, List.set_cons_succ]
  refine wpAnyH_take (i := 4) (oi := ⟨some 34, .load 23 (.tmp 8), 23, "law.go:157", #[], none⟩) (v := ?_) rfl (by kernel_rfl) (by kernel_rfl) (by kernel_rfl) (fun _ _ _ h => h) (Or.inl ⟨by rfl, ?_⟩) (by assumption) ?_
  rotate_left
  · (intro w_ hS_; (try dsimp only at hS_); obtain ⟨⟨s1, s1'⟩, -⟩ := hS_; go_simp; try with_reducible rfl)
  try simp only [Act.put, List.setIfInBounds_toArray, List.set_cons_zero, List.set_cons_succ]
  refine wpAnyH_take (i := 5) (oi := ⟨some 35, .build 50 #[(0, .const (.bool false)), (1, .const (.bool true))], 50, "law.go:157", #[], none⟩) (v := ?_) rfl (by kernel_rfl) (by kernel_rfl) (by kernel_rfl) (fun _ _ _ h => h) (Or.inl ⟨by rfl, ?_⟩) (by assumption) ?_
  rotate_left
  · (intro w_ hS_; (try dsimp only at hS_); obtain ⟨⟨s1, s1'⟩, -⟩ := hS_; go_simp; try with_reducible rfl)
  try simp only [Act.put, List.setIfInBounds_toArray, List.set_cons_zero, List.set_cons_succ]
  refine wpAnyH_ready (rs := [2]) (by kernel_rfl) (by simp) ?_
  refine AllReadyH.cons (o := ⟨some 32, .call ⟨.value (.func 20), #[.tmp 30, .tmp 31], #[23, 50]⟩, 54, "law.go:157", #[⟨0, .data⟩, ⟨1, .data⟩], none⟩) rfl (fun K hK => ?_) AllReadyH.nil
  go_simp
  (have hq_ := hHeld; (try dsimp only at hq_))
  obtain ⟨hs_, hf_⟩ := hq_
  refine (ready_b b true false first d _ (HB4.out.below hf_) h0 (by omega) HGD.out).mono ?_
  rintro e u2 ⟨it_, rfl, hit_, hb_⟩
  have HI_ := Lib.hid (hit_ (fun _ => False) (fun _ h => h.elim))
  refine hK.out _ _ ⟨hs_.below hb_ hs_.lt, hf_.trans (hb_.mono hf_.size)⟩ (fun hHeld => ?_)
  clear hit_ hb_ hs_ hf_
  clear hK K
  try simp only [Act.put, List.setIfInBounds_toArray, List.set_cons_zero, List.set_cons_succ]
  refine wpAnyH_ready (rs := [3]) (by kernel_rfl) (by simp) ?_
  refine AllReadyH.cons (o := ⟨some 33, .call ⟨.value (.func 23), #[.tmp 32], #[54]⟩, 3, "law.go:157", #[⟨2, .data⟩, ⟨2, .chain⟩], none⟩) rfl (fun K hK => ?_) AllReadyH.nil
  go_simp
  (have hq_ := hHeld; (try dsimp only at hq_))
  obtain ⟨hs_, hf_⟩ := hq_
  refine (Count_c _ _ _ _ HI_.out (by omega)).mono ?_
  rintro e u3 ⟨rfl, hb_⟩
  refine hK.out _ _ ⟨hs_.below hb_ hs_.lt, hf_.trans (hb_.mono hf_.size)⟩ (fun hHeld => ?_)
  clear HI_ hb_ hs_ hf_
  clear hK K
  try simp only [Act.put, List.setIfInBounds_toArray, List.set_cons_zero, List.set_cons_succ]
  refine wpAnyH_ready (rs := [6]) (by kernel_rfl) (by simp) ?_
  refine AllReadyH.cons (o := ⟨some 36, .call ⟨.value (.func 20), #[.tmp 34, .tmp 35], #[23, 50]⟩, 54, "law.go:157", #[⟨4, .data⟩, ⟨5, .data⟩, ⟨3, .chain⟩], none⟩) rfl (fun K hK => ?_) AllReadyH.nil
  go_simp
  (have hq_ := hHeld; (try dsimp only at hq_))
  obtain ⟨hs_, hf_⟩ := hq_
  refine (ready_b b false true first d _ (HB4.out.below hf_) h0 (by omega) HGD.out).mono ?_
  rintro e u6 ⟨it_, rfl, hit_, hb_⟩
  have HI_ := Lib.hid (hit_ (fun _ => False) (fun _ h => h.elim))
  refine hK.out _ _ ⟨hs_.below hb_ hs_.lt, hf_.trans (hb_.mono hf_.size)⟩ (fun hHeld => ?_)
  clear hit_ hb_ hs_ hf_
  clear hK K
  try simp only [Act.put, List.setIfInBounds_toArray, List.set_cons_zero, List.set_cons_succ]
  refine wpAnyH_ready (rs := [7]) (by kernel_rfl) (by simp) ?_
  refine AllReadyH.cons (o := ⟨some 37, .call ⟨.value (.func 23), #[.tmp 36], #[54]⟩, 3, "law.go:157", #[⟨6, .data⟩, ⟨6, .chain⟩], none⟩) rfl (fun K hK => ?_) AllReadyH.nil
  go_simp
  (have hq_ := hHeld; (try dsimp only at hq_))
  obtain ⟨hs_, hf_⟩ := hq_
  refine (Count_c _ _ _ _ HI_.out (by omega)).mono ?_
  rintro e u7 ⟨rfl, hb_⟩
  refine hK.out _ _ ⟨hs_.below hb_ hs_.lt, hf_.trans (hb_.mono hf_.size)⟩ (fun hHeld => ?_)
  clear HI_ hb_ hs_ hf_
  clear hK K
  try simp only [Act.put, List.setIfInBounds_toArray, List.set_cons_zero, List.set_cons_succ]
  refine wpAnyH_take (i := 8) (oi := ⟨some 10, .assign (.tmp 33), 3, "law.go:157", #[⟨3, .data⟩, ⟨7, .chain⟩, ⟨0, .phase⟩, ⟨1, .phase⟩, ⟨2, .phase⟩, ⟨3, .phase⟩, ⟨4, .textOnly .lateStores⟩, ⟨5, .textOnly .lateStores⟩, ⟨6, .textOnly .lateStoresUnsure⟩, ⟨7, .textOnly .lateStoresUnsure⟩], none⟩) (v := ?_) rfl (by kernel_rfl) (by kernel_rfl) (by kernel_rfl) (fun _ _ _ h => h) (Or.inl ⟨by rfl, ?_⟩) (by assumption) ?_
  rotate_left
  · (intro w_ hS_; (try dsimp only at hS_); obtain ⟨⟨s1, s1'⟩, -⟩ := hS_; go_simp; try with_reducible rfl)
  try simp only [Act.put, List.setIfInBounds_toArray, List.set_cons_zero, List.set_cons_succ]
  refine wpAnyH_take (i := 9) (oi := ⟨some 11, .assign (.tmp 37), 3, "law.go:157", #[⟨7, .data⟩, ⟨8, .chain⟩, ⟨0, .phase⟩, ⟨1, .phase⟩, ⟨2, .phase⟩, ⟨3, .phase⟩, ⟨4, .phase⟩, ⟨5, .phase⟩, ⟨6, .phase⟩, ⟨7, .phase⟩, ⟨8, .phase⟩], none⟩) (v := ?_) rfl (by kernel_rfl) (by kernel_rfl) (by kernel_rfl) (fun _ _ _ h => h) (Or.inl ⟨by rfl, ?_⟩) (by assumption) ?_
  rotate_left
  · (intro w_ hS_; (try dsimp only at hS_); obtain ⟨⟨s1, s1'⟩, -⟩ := hS_; go_simp; try with_reducible rfl)
  try simp only [Act.put, List.setIfInBounds_toArray, List.set_cons_zero, List.set_cons_succ]
  refine wpAnyH_done (by kernel_rfl) ?_ _
  (try dsimp only at hHeld)
  obtain ⟨hp8, hb8⟩ := hHeld
  gi_wp2_with fail
  refine wpIn_named (fun W_ => Row W_ pb #[.pointer (some ⟨b.g, 0, none⟩)] ∧ Below W4.heap.size W4 W_) ⟨hp8, hb8⟩ ?_
  clear hp8 hb8
  rintro W8 ⟨hp8, hb8⟩
  have hit8 := (HIt.out.later hb8)
  obtain ⟨gf', lb', e8, -, hi8⟩ := hit8
  cases e8
  have HP8 := Lib.hid hp8
  have lz8 := hb8.size
  refine wp_range (Pv := NoCells) (fun _ h => h) rfl eg (hi8 W8.heap.size W8 (Nat.le_refl _) (Below.refl _ _)) (Below.refl _ _) (fun h k => h.trans k) (fun W l o o' _ h1 h2 => KeepC.put W l o o' h1 h2) (fun _ => rfl)
    (fun _ X => Below W8.heap.size W8 X) (fun _ _ _ => False)
    (OwnP.below NoCells (Nat.le_refl _) (Nat.le_refl _)) (fun _ => OwnP.const _ _ (fun _ => False)) (Below.refl _ _) ?round ?done ?stop
  case round =>
    rintro l pre x post X hxs hl hlt hB
    obtain ⟨id, y⟩ := x
    have hm : (id, y) ∈ rdyL true true (allL first d) := by rw [hxs]; simp
    obtain ⟨hm1, hm2⟩ := List.mem_filter.1 hm
    obtain ⟨j, hj1, hj2⟩ := mem_allL hm1
    have hj3 : j < d.length := (List.getElem?_eq_some_iff.1 hj1).1
    simp only at hj2
    subst hj2
    simp only [rdyB, ready, pend, Bool.and_eq_true, Bool.or_eq_true, Bool.not_eq_true'] at hm2
    obtain ⟨h4, -, hpd, hac⟩ := hm2
    have hac' : y.f3 = false := hac
    have hpd' : y.f2 = true ∨ (y.f0 = false ∧ y.f1 = true) := hpd
    clear hm hm1 hac hpd hxs hl hj1
    gi_wp2
    have hbe : Below X.heap.size X ((X.alloc (.cells #[.bool false, .bool false, .bool false, .bool false, .bool false, .int .i64 0, .int .i64 0, .string ⟨#[]⟩] 35)).setRow X.heap.size (vE y)) := below_setRow ((Below.refl _ X).alloc (Nat.le_refl _) _) (Nat.le_refl _) _
    refine ⟨KeepsFrom.low hbe, KeepC.low hbe, hB.trans (hbe.mono hB.size), ?_⟩
    have r7 : Row ((X.alloc (.cells #[.bool false, .bool false, .bool false, .bool false, .bool false, .int .i64 0, .int .i64 0, .string ⟨#[]⟩] 35)).setRow X.heap.size (vE y)) X.heap.size (vE y) := Row.setRow isRow_new
    have lX := hB.size
    clear hB hbe
    rintro X2 hg2 hB2x
    have hs7 := hg2.size
    obtain ⟨d7, d7'⟩ := Row.kept r7 hg2 (by intro e; cases e; omega)
    obtain ⟨P2, P2'⟩ := HP8.out.below hB2x HP8.out.lt
    have hBx := HB4.out.below (hb8.trans (hB2x.mono lz8))
    have HH := Lib.hid (fun (W : World) (h : BAt b first d W) => (Has_b b first (first + j) d W h h0 (wid_small (by omega) (by omega))))
    rw [hasB_at hj3] at HH
    have HB2x := Lib.hid hB2x
    have HBx := Lib.hid hBx
    clear r7 hg2 hB2x hBx
    rcases hpd' with hp2 | ⟨hp0, hp1⟩
    · gi_wp2_with fail
      refine (in_of_calls (HH.out _ HBx.out)).mono ?_
      rintro e v9 ⟨rfl, hb9⟩
      gi_wp2
      exact ⟨KeepsFrom.low hb9, KeepC.low hb9, HB2x.out.trans (hb9.mono HB2x.out.size)⟩
    · rcases Bool.eq_false_or_eq_true y.f2 with hp2 | hp2
      · gi_wp2_with fail
        refine (in_of_calls (HH.out _ HBx.out)).mono ?_
        rintro e v9 ⟨rfl, hb9⟩
        gi_wp2
        exact ⟨KeepsFrom.low hb9, KeepC.low hb9, HB2x.out.trans (hb9.mono HB2x.out.size)⟩
      · gi_wp2_with fail
        refine (in_of_calls (HH.out _ HBx.out)).mono ?_
        rintro e v9 ⟨rfl, hb9⟩
        gi_wp2
        exact ⟨KeepsFrom.low hb9, KeepC.low hb9, HB2x.out.trans (hb9.mono HB2x.out.size)⟩
  case done =>
    rintro D X hD hB hK
    obtain ⟨P2, P2'⟩ := HP8.out.below hB HP8.out.lt
    have hX4 := hb8.trans (hB.mono lz8)
    have hRX := HR4.out.below hX4 HR4.out.lt
    have hBX := HB4.out.below hX4
    have hIX := HIt.out.later hX4
    have hDX : D < X.heap.size := (Array.getElem?_eq_some_iff.1 hK).1
    have hwX : Below w.heap.size w X := hBw4.trans (hX4.mono hBw4.size)
    have w9 : IntKind.i64.wrap (((rdyL true false (allL first d)).length : Int) + ((rdyL false true (allL first d)).length : Int)) = ((rdyL true false (allL first d)).length : Int) + ((rdyL false true (allL first d)).length : Int) := IntWalk.i64_in _ (by omega)
    have ue : (((rdyL true true (allL first d)).length : Int) == ((rdyL true false (allL first d)).length : Int) + ((rdyL false true (allL first d)).length : Int)) = true := by rw [HS.out.1]; simp
    have HIX := Lib.hid hIX
    have HF := Lib.hid (And.intro hK (And.intro hRX (And.intro hBX hwX)))
    clear hK hRX hBX hwX hIX hB hX4
    gi_wp2_with fail
    refine (in_of_calls (Count_c _ _ _ X HIX.out (by omega))).mono ?_
    rintro e v1 ⟨rfl, c1⟩
    have hz1 := c1.size
    obtain ⟨P3, P3'⟩ := Row.step P2 P2' c1
    gi_wp2_with fail
    refine (in_of_calls (Of_c 0 _ _ _ (HIX.out.later c1))).mono ?_
    rintro e v2 ⟨u2, rfl, hu2, c2⟩
    rw [HS.out.2.1] at hu2
    have c2' : Below X.heap.size X v2 := c1.trans (c2.mono hz1)
    have hz2 := c2'.size
    have HU2 := Lib.hid hu2
    clear hu2 c1 c2 P3 P3'
    gi_wp2_with fail
    refine (in_of_calls (Count_c _ _ _ _ HU2.out (by omega))).mono ?_
    rintro e v3 ⟨rfl, c3⟩
    have c3' : Below X.heap.size X v3 := c2'.trans (c3.mono hz2)
    have hz3 := c3'.size
    clear c3 c2'
    gi_wp2_with fail
    refine (in_of_calls (Of_c 1 _ _ _ (HIX.out.later c3'))).mono ?_
    rintro e v4 ⟨u4, rfl, hu4, c4⟩
    rw [HS.out.2.2] at hu4
    have c4' : Below X.heap.size X v4 := c3'.trans (c4.mono hz3)
    have hz4 := c4'.size
    have HU4 := Lib.hid hu4
    clear hu4 c4 c3'
    gi_wp2_with fail
    refine (in_of_calls (Count_c _ _ _ _ HU4.out (by omega))).mono ?_
    rintro e v5 ⟨rfl, c5⟩
    have c5' : Below X.heap.size X v5 := c4'.trans (c5.mono hz4)
    have hz5 := c5'.size
    obtain ⟨P5, P5'⟩ := Row.step P2 P2' c5'
    have hB5 := HF.out.2.2.1.below c5'
    have HB5 := Lib.hid hB5
    clear c5 c4' hB5
    gi_wp2_with fail
    refine (in_of_calls (ready_b b false false first d _ HB5.out h0 (by omega) HGD.out)).mono ?_
    rintro e v6 ⟨u6, rfl, hu6, c6⟩
    have hu6' := hu6 (fun _ => False) (fun _ h => h.elim)
    rw [rdy_none] at hu6'
    have c6' : Below X.heap.size X v6 := c5'.trans (c6.mono hz5)
    have hz6 := c6'.size
    have HU6 := Lib.hid hu6'
    clear hu6 hu6' c6 c5' P5 P5'
    gi_wp2_with fail
    refine (in_of_calls (Count_c _ _ _ _ HU6.out (by simp))).mono ?_
    rintro e v7 ⟨rfl, c7⟩
    have c7' : Below X.heap.size X v7 := c6'.trans (c7.mono hz6)
    have hR7 := HF.out.2.1.below c7' HF.out.2.1.lt
    have hK7 : v7.heap[D]? = some (.deferred (some [])) := (c7'.block D hDX).trans HF.out.1
    have hw7 : Below w.heap.size w v7 := HF.out.2.2.2.trans (c7'.mono HF.out.2.2.2.size)
    obtain ⟨R7, R7'⟩ := hR7
    have lw7 : w.heap.size < W4.heap.size := HR4.out.lt
    have hDw : ¬ D = w.heap.size := by omega
    clear c7 c6'
    gi_wp2
    refine leave_bool (b := true) ((Below.heap_setCell v7 _ _ D hDw).trans hK7) rfl rfl (by go_simp) (by go_simp) hDw ⟨rfl, below_putD (hw7.setCell (Nat.le_refl _) _) (by omega) _⟩
  case stop =>
    rintro D c pre x post X _ _ h _
    exact h.elim
end Go.Proofs.Ytbglgblngfbhbaa.Bk
