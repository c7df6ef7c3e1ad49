/- The law BankAsked. -/
import Derived.Test.YtbglgblngfbhbaaK22
import Derived.Test.YtbglgblngfbhbaaIAllx6
namespace Go.Proofs.Ytbglgblngfbhbaa.Bk
open Go.RowKit Go.Shelf Go.Proofs.Ytbglgblngfbhbaa.IAll Go.Proofs.YtbglgblngfbhbaaW.PrintWords Go.Proofs.YtbglgblngfbhbaaW.PrintLast Go.Proofs.YtbglgblngfbhbaaW.PrintMore
set_option linter.unusedVariables false
set_option linter.unusedSectionVars false
set_option linter.unusedSimpArgs false
attribute [local go_sem] Oper.semAt_some cell_row frozen_row isRow_setCell_eq rowAt_setCell_same rowAt_setCell_other isRow_alloc_eq rowAt_alloc rowAt_new rowAt_new' isRow_setRow_eq rowAt_setRow_same rowAt_setRow_other isRow_drew rowAt_drew size_setRow_ size_drew_ blk_ptr aggOf_agg offv_ptr below_alloc_e below_setCell_e below_setRow_e below_refl_e below_drew_r isRow_drewN rowAt_drewN below_drewN_e le_add_r asideP_alloc_e asideP_setCell_e asideP_setRow_e asideP_drew_e asideP_drewN_e asideP_refl_e allOne_nil allOne_cons Value.oneCell' addr_at mid_FT vE_size vL_size vQ_size vC_size vS_size vP_size vE_one vL_one vQ_one vC_one vS_one vP_one mid_spl spl_size spl_spl
attribute [local go_sem ↓] loadE storeE loadEm storeEm loadEg storeEg loadEmg storeEmg loadL storeL loadLm storeLm loadQ storeQ loadQm storeQm loadC storeC loadCg storeCg loadS storeS loadSm loadP storeP loadPm loadPg storePg 
set_option maxRecDepth 100000

theorem KeepC.aside1 {F : Nat → Prop} {n g : Nat} {X X' : World} (h : AsideP (fun k => k = g) X X') (hF : F g) : KeepC (CF F n) X X' :=
  ⟨h.size, fun k o hc hk _ => (h.block k (Array.getElem?_eq_some_iff.1 hk).1 (fun e => hc (.inr (by rw [e]; exact hF)))).trans hk⟩
theorem append_block {X w1 : World} {tmp : Obj} {u v' : Value} {k gb : Nat} (hgrow : (X.alloc tmp).grownBy w1 u.ownBlock) (hk : k < X.heap.size) (h1 : ¬ k = gb) (h2 : some k ≠ u.ownBlock) : (w1.setCell ⟨gb, 0, none⟩ v').heap[k]? = X.heap[k]? :=
  (Below.heap_setCell w1 ⟨gb, 0, none⟩ v' k h1).trans ((hgrow.block k (by simp; omega) h2).trans (Below.heap_alloc _ _ _ hk))
theorem rd_eq (l : List Int) (k : Nat) (h : k < l.length) : rd l (k : Int) = l[k] := by
  simp [rd, List.getD_eq_getElem?_getD, List.getElem?_eq_getElem h]
theorem same_l0 (l : List Int) (hl : l.length ≤ 16384) : ∀ m i : Nat, i + m = l.length → crierref01_Same.l0 (m + 1) l l i = some true := by
  intro m
  induction m with
  | zero =>
    intro i hi
    rw [crierref01_Same.l0, if_neg (by omega)]
  | succ m ih =>
    intro i hi
    have e : wrap64 ((i : Int) + 1) = ((i + 1 : Nat) : Int) := (IntWalk.wrap64_in _ (by omega)).trans (by omega)
    rw [crierref01_Same.l0, if_pos (by omega), if_pos (by omega), if_pos (by omega), if_pos rfl, e]
    exact ih (i + 1) (by omega)
theorem same_is (l : List Int) (hl : l.length ≤ 16384) : crierref01_Same.f (l.length + 1) l l = some true := by
  unfold crierref01_Same.f
  rw [if_pos rfl]
  exact same_l0 l hl l.length 0 (by omega)
/-- these numbers are read there -/
def IntsAt (w : World) (p : Option Addr) (l : List Int) : Prop := 0 < l.length → ∃ ob T, p = some ⟨ob, 0, none⟩ ∧ Row w ob (FT eI l T)
theorem IntsAt.kd {w : World} {p : Option Addr} {l : List Int} (h : IntsAt w p l) (hl : l.length ≤ 16384) : Kd.C (Kd.int .i64) w p l.length l := by
  rcases Nat.eq_zero_or_pos l.length with h0 | h0
  · exact ⟨rfl, by omega, fun h => by omega⟩
  · obtain ⟨ob, T, rfl, hr⟩ := h h0
    exact ft_kd (k := Kd.int .i64) (enc := eI) rfl eI_len (fun _ _ => rfl) hr (by omega)
theorem IntsAt.below {w w' : World} {p : Option Addr} {l : List Int} (h : IntsAt w p l) (hb : Below w.heap.size w w') : IntsAt w' p l := fun h0 => by
  obtain ⟨ob, T, e, hr⟩ := h h0
  exact ⟨ob, T, e, hr.below hb hr.lt⟩
theorem same_c (p q : Option Addr) (c c' : Nat) (l : List Int) (w : World) (h1 : IntsAt w p l) (h2 : IntsAt w q l) (hl : l.length ≤ 16384) (hc : l.length ≤ c) (hc' : l.length ≤ c') :
    Calls Try.prog 22 #[.slice p l.length c, .slice q l.length c'] w fun e w' => e = .returned (.bool true) ∧ Below w.heap.size w w' :=
  (crierref01_Same.calls _ p c l q c' l true w (h1.kd hl) hc (h2.kd hl) hc' (same_is l hl)).mono fun _ _ q => ⟨q.1, below_drawn0 q.2⟩
theorem own_at {base n : Nat} {W : World} {v : Value} {l : List Int} (h : W.ownsRow base 3 1 v n (l.map (Value.int .i64))) (hn : l.length = n) : ∃ p cap, v = .slice p n cap ∧ n ≤ cap ∧ IntsAt W p l ∧ (∀ ob, p = some ⟨ob, 0, none⟩ → 0 < n → base ≤ ob) := by
  obtain ⟨p, cap, rfl, hc, hr⟩ := own_ints h hn
  refine ⟨p, cap, rfl, hc, fun h0 => ?_, fun ob e h0 => ?_⟩
  · obtain ⟨ob, T, e, -, hr⟩ := hr (by omega)
    exact ⟨ob, T, e, hr⟩
  · obtain ⟨ob2, T, e2, hb, -⟩ := hr h0
    rw [e] at e2
    cases e2
    exact hb

theorem own_same {W W' : World} {n e s m : Nat} {v : Value} {xs : List Value} (h : W.ownsRow n e s v m xs) (hb : ∀ k, v.ownBlock = some k → W'.heap[k]? = W.heap[k]?) : W'.ownsRow n e s v m xs := by
  refine ⟨h.1, ?_⟩
  rcases h.2 with ⟨rfl, h0⟩ | ⟨g, cap, cur, rfl, hg, hh, hr⟩
  · exact .inl ⟨rfl, h0⟩
  · exact .inr ⟨g, cap, cur, rfl, hg, (hb g rfl).trans hh, hr⟩
theorem own_lt {W : World} {n e s m : Nat} {v : Value} {xs : List Value} (h : W.ownsRow n e s v m xs) (k : Nat) (hk : v.ownBlock = some k) : k < W.heap.size := by
  rcases h.2 with ⟨rfl, h0⟩ | ⟨g, cap, cur, rfl, hg, hh, hr⟩
  · cases hk
  · have e1 : g = k := by simpa [Value.ownBlock] using hk
    subst e1
    exact (Array.getElem?_eq_some_iff.1 hh).1
def IA (gb : Nat) (b : BSh) (first : Int) (n : Nat) (W7 : World) (pre : List (Int × E)) (X : World) : Prop := ∃ u d', Boxed X gb 51 u ∧ X.ownsRow W7.heap.size 3 1 u pre.length (pre.map fun x => Value.int .i64 x.1) ∧ BAt b first d' X ∧ d'.length = n ∧ AsideP (fun k => k = b.e ∨ k = gb) W7 X
set_option maxHeartbeats 4000000 in
theorem asked_law (first m : Int) (A : Option Addr) (c : Nat) (xs : List S) (g0 g1 : Bool) (w : World) (h0 : 0 ≤ first) (h1 : first ≤ 255) (h2 : 0 ≤ m) (h3 : m ≤ 255) (hC : Kd.C kS w A xs.length xs) (hbig : xs.length ≤ 9223372036854775807) (hW : ∀ x ∈ xs, Wid x.f1) :
    Calls Try.prog 5 #[.int .u8 first, .int .u8 m, .slice A xs.length c, .agg #[.bool g0, .bool g1]] w fun e w' => e = .returned (.bool true) ∧ Below w.heap.size w w' := by
  refine calls_of_wide ?_
  refine callsIn_of_wp_marks Try.func5 rfl trivial ?_ rfl
  simp only [Try.ntmps5, List.size_toArray, List.length_cons, List.length_nil, Nat.reduceAdd, Nat.reduceSub, Array.replicate_succ, Array.replicate_zero, List.push_toArray, List.append_toArray, List.nil_append, List.cons_append]
  gi_wp2_with fail
  have hz0 : Row (w.alloc (.cells #[.bool g0, .bool g1] 50)) w.heap.size #[.bool g0, .bool g1] := Row.new _ _ _
  have hZ : Below w.heap.size w (w.alloc (.cells #[.bool g0, .bool g1] 50)) := (Below.refl _ w).alloc (Nat.le_refl _) _
  refine (in_of_calls (awake_c _)).mono ?_
  rintro e v1 ⟨rfl, hB1'⟩
  have hr1 := hz0.below hB1' hz0.lt
  have hB1 : Below w.heap.size w v1 := hZ.trans (hB1'.mono hZ.size)
  have HPl := Lib.hid (played_c first m A c xs v1 h0 h1 h2 h3 (Kd.C_below hC hB1) hbig hW)
  have hn := nOf_lt m
  clear hC hz0 hZ hB1'
  gi_wp2_with fail
  refine (in_of_calls HPl.out).mono ?_
  rintro e v2 ⟨b, rfl, hb2, p1, p2, hB2'⟩
  have hr2 := hr1.below hB2' hr1.lt
  have lr := hr1.lt
  have hB2 : Below w.heap.size w v2 := hB1.trans (hB2'.mono hB1.size)
  have hgd := good_runA first xs (good_d0 m)
  have hlen : (runA first (d0 m) xs).length = nOf m := by rw [runA_len, d0_len]
  have hle : (runA first (d0 m) xs).length ≤ 63 := by omega
  generalize runA first (d0 m) xs = d at *
  have hB1s := hB1.size
  have lg2 := hb2.gl
  have le2 := hb2.el
  obtain ⟨R2, R2'⟩ := hr2
  clear HPl hlen hn hB1 hB2' hr1
  have HB2 := Lib.hid hb2
  have n1 : ¬ w.heap.size = v2.heap.size := by omega
  have n2 : ¬ v2.heap.size = w.heap.size := by omega
  clear hb2
  gi_wp2_with fail
  refine callsIn_named (fun W_ => Row W_ v2.heap.size #[.pointer (some ⟨b.g, 0, none⟩)] ∧ Row W_ w.heap.size #[.bool g0, .bool g1] ∧ Below v2.heap.size v2 W_) (by refine ⟨⟨by go_simp, by go_simp⟩, ⟨by go_simp, by go_simp⟩, by go_simp⟩) ?_
  rintro W3 ⟨hp3, hg3, hb3⟩
  have hB3 := HB2.out.below hb3
  have hBw := hB2.trans (hb3.mono hB2.size)
  have lp : v2.heap.size < W3.heap.size := hp3.lt
  have qe : ¬ v2.heap.size = b.e := by omega
  have qg : w.heap.size ≤ b.e := by omega
  have qw : ¬ w.heap.size = b.e := by omega
  generalize v2.heap.size = pb at *
  clear HB2 R2 R2' hB2 hb3 n1 n2
  refine (in_of_calls (ready_b b g0 g1 first d W3 hB3 h0 (by omega) hgd)).mono ?_
  rintro e W4 ⟨it, rfl, hit, hb4⟩
  have HI4 := Lib.hid (hit (fun _ => False) (fun _ h => h.elim))
  have hB4 := hB3.below hb4
  have hp4 := hp3.below hb4 hp3.lt
  have hg4 := hg3.below hb4 hg3.lt
  have hBw4 := hBw.trans (hb4.mono hBw.size)
  have hRl := rdy_len g0 g1 first d
  clear hit hB3 hp3 hg3 hBw
  gi_wp2_with fail
  refine (in_of_calls (ids_c _ _ _ _ HI4.out (by omega))).mono ?_
  rintro e W5 ⟨u5, rfl, hown5, hb5⟩
  obtain ⟨pw, cw, rfl, hcw, hia5, hbase5⟩ := own_at (l := (rdyL g0 g1 (allL first d)).map (·.1)) (by rw [List.map_map]; exact hown5) (by simp)
  have hbase5' : ∀ ob, pw = some ⟨ob, 0, none⟩ → 0 < (rdyL g0 g1 (allL first d)).length → W4.heap.size + 1 ≤ ob ∧ ob < W5.heap.size := fun ob e h0 => ⟨hbase5 ob e h0, by
    obtain ⟨ob', T, e', hr⟩ := hia5 (by simpa using h0)
    rw [e] at e'
    cases e'
    exact hr.lt⟩
  have hB5 := hB4.below hb5
  obtain ⟨P5, P5'⟩ := hp4.below hb5 hp4.lt
  obtain ⟨G5, G5'⟩ := hg4.below hb5 hg4.lt
  have hBw5 := hBw4.trans (hb5.mono hBw4.size)
  have lz4 := hb4.size
  have le4 := hB4.el
  have lg5 := hB5.gl
  have le5 := hB5.el
  have lp5 : pb < W5.heap.size := P5.lt
  have lw5 : w.heap.size < W5.heap.size := G5.lt
  have HB5 := Lib.hid hB5
  have HIA := Lib.hid hia5
  have HBS := Lib.hid hbase5'
  have HGD := Lib.hid hgd
  clear hB4 hp4 hg4 hBw4 hown5 hia5 hb4 hb5 HI4 hbase5 hbase5' hB5 hgd
  have n3 : ¬ w.heap.size = W5.heap.size := by omega
  have n4 : ¬ W5.heap.size = w.heap.size := by omega
  have n5 : ¬ pb = W5.heap.size := by omega
  have n6 : ¬ W5.heap.size = pb := by omega
  gi_wp2_with fail
  obtain ⟨W6, hW6⟩ : ∃ W6, W5.alloc (.cells #[.slice none 0 0] 51) = W6 := ⟨_, rfl⟩
  have b6 : Boxed W6 W5.heap.size 51 (.slice none 0 0) := by rw [← hW6]; exact Boxed.new W5 51 _
  have hb6 : Below W5.heap.size W5 W6 := by rw [← hW6]; exact (Below.refl _ W5).alloc (Nat.le_refl _) _
  rw [hW6]
  clear hW6
  have hB6 := HB5.out.below hb6
  have hp6 := (show Row W5 pb #[.pointer (some ⟨b.g, 0, none⟩)] from ⟨P5, P5'⟩).below hb6 lp5
  have hia6 := HIA.out.below hb6
  have hBw6 := hBw5.trans (hb6.mono hBw5.size)
  have lz6 := b6.lt
  refine (in_of_calls (ready_b b g0 g1 first d W6 hB6 h0 (by omega) HGD.out)).mono ?_
  rintro e W7 ⟨it2, rfl, hit2, hb7⟩
  obtain ⟨gf, lb, rfl, eg, hi⟩ := hit2 (fun k => k = b.e ∨ k = W5.heap.size) (by rintro k (rfl | rfl); exact ⟨by omega, fun e => HB5.out.ne e.symm⟩; exact ⟨lz6, by omega⟩)
  have b7 : Boxed W7 W5.heap.size 51 (.slice none 0 0) := (hb7.block _ lz6).trans b6
  have hB7 := hB6.below hb7
  have hp7 := hp6.below hb7 hp6.lt
  have hia7 := hia6.below hb7
  have hBw7 := hBw6.trans (hb7.mono hBw6.size)
  have lz7 := b7.lt
  have lp7 := hp7.lt
  have lg7 := hB7.gl
  have le7 := hB7.el
  have hW5 := hBw5.size
  obtain ⟨i0, hi0, hz0, hz1, hz2⟩ := info_parts info3
  have HIA7 := Lib.hid hia7
  have HP7 := Lib.hid hp7
  clear hit2 b6 hb6 hB6 hp6 hia6 hBw6 hb7 hia7 hp7 HB5 HIA P5 P5' G5 G5' n3 n4
  generalize W5.heap.size = gb at *
  gi_wp2_with fail
  refine wp_range (Pv := NoCells) (fun _ h => h) rfl eg (hi W7.heap.size W7 (Nat.le_refl _) (Below.refl _ _)) (Below.refl _ _) (fun h k => h.trans k) (fun W l o o' _ h1 h2 => KeepC.put W l o o' h1 h2) (fun _ => rfl)
    (IA gb b first d.length W7) (fun _ _ _ => False)
    ?hI (fun _ => OwnP.const _ _ (fun _ => False)) ⟨_, d, b7, World.ownsRow_nil _ _ _ _, hB7, rfl, .of_below (Below.refl _ _)⟩ ?round ?done ?stop
  case hI =>
    rintro pre X Y row ⟨u, d', k1, k2, k3, k4, k5⟩ hg hr
    refine ⟨u, d', k1.kept hg (fun er => by have := (hr _ er.symm).1; omega), k2.kept hg (own_notNo (X := Y) k2 (fun r er => (hr r er).2)), ⟨k3.row.kept hg (fun er => by have := (hr _ er.symm).1; omega), k3.ents.kept hg (fun er => by have := (hr _ er.symm).1; omega), k3.ne⟩, k4, ?_⟩
    exact ⟨hg.os.trans k5.os, hg.tape.trans k5.tape, hg.output.trans k5.output, Nat.le_trans k5.size hg.size, fun k hk hn => (hg.block k (Nat.lt_of_lt_of_le hk k5.size) (fun er => by have := (hr k er.symm).1; omega)).trans (k5.block k hk hn)⟩
  case round =>
    rintro l pre x post X hxs hl hlt ⟨u, d', hb, hrow, hBx, hdl, hA⟩
    obtain ⟨id, y⟩ := x
    have hle2 : pre.length + 1 ≤ 63 := by have := hRl; rw [hxs] at this; simp at this; omega
    have hm : (id, y) ∈ rdyL g0 g1 (allL first d) := by rw [hxs]; simp
    obtain ⟨j, hj1, hj2⟩ := mem_allL (List.mem_filter.1 hm).1
    have hj3 : j < d.length := (List.getElem?_eq_some_iff.1 hj1).1
    simp only at hj2
    subst hj2
    gi_wp2
    refine ⟨KeepsFrom.refl _ _, KeepC.refl _ _, ⟨u, d', hb, hrow, hBx, hdl, hA⟩, ?_⟩
    clear hb hrow hBx hdl hA hm hj1 hxs hl
    rintro X2 hg2
    rintro ⟨u, d', hb, hrow, hBx, hdl, hA⟩
    have hs2 := hA.size
    have w4 : IntKind.i64.wrap (first + (j : Int) + 1) = first + (j : Int) + 1 := IntWalk.i64_in _ (by omega)
    have hd1 : decide ((100 : Int) < ((pre.length + 1 : Nat) : Int)) = false := decide_eq_false (by omega)
    have hd2 : decide ((100 : Int) < (pre.length : Int) + 1) = false := decide_eq_false (by omega)
    have hc := hb.cell
    have hpX := hA.row HP7.out (fun h => by rcases h with h | h; exact qe h; exact n5 h)
    obtain ⟨PX, PX'⟩ := hpX
    have hcp : X2.cell? ⟨pb, 0, none⟩ = some (.pointer (some ⟨b.g, 0, none⟩)) := by rw [cell_row PX, PX']; rfl
    have lg2 := hBx.gl
    have le2 := hBx.el
    have lpb := PX.lt
    have hob := own_base hrow
    have HX := Lib.hid (And.intro hBx (And.intro hA hob))
    clear hg2 hlt hBx hA hob
    gi_wp2_with (gi_at_builtin; refine wpListIn_append_own _ rfl _ _ 51 rfl W7.heap.size 3 i0 (.int .i64 0) 1 8 Try.underlying51 hi0 hz0 hz1 hz2 rfl (by decide) _ _ _ rfl (hrow.alloc _) ⟨X2.heap.size, 0, none⟩ 1 1 [.int .i64 (first + (j : Int))] rfl rfl (cell_new1 _ _ _) (by simp [Value.oneCell']) (by unfold maxLen; omega) (by omega) (by simp; omega) ?_; intro v' w1 hown' hgrow _; obtain ⟨g', cap', rfl⟩ := ownsRow_succ hown'; obtain ⟨hv1, hv2, hr2, hk2, hb2, hs2'⟩ := box_append hb (by decide) hrow hown' hgrow; have hc1 := hv1.cell; have hf1 := hv1.frozen; have hc2 := hv2.cell; have hcp1 : w1.cell? ⟨pb, 0, none⟩ = some (.pointer (some ⟨b.g, 0, none⟩)) := (World.cell?_of_block ((hgrow.block pb (by simp; omega) (fun er => by have := HX.out.2.2 pb er.symm; omega)).trans (Below.heap_alloc _ _ _ lpb))).trans hcp)
    have hF : ∀ k, some k = u.ownBlock → W7.heap.size ≤ k := fun k e => HX.out.2.2 k e.symm
    have hblk : ∀ k, k < W7.heap.size → ¬ k = gb → (w1.setCell ⟨gb, 0, none⟩ (.slice (some ⟨g', 0, none⟩) (pre.length + 1) cap')).heap[k]? = X2.heap[k]? := fun k hk hn => append_block hgrow (by omega) hn (fun e => by have := hF k e; omega)
    have hB5 : BAt b first d' (w1.setCell ⟨gb, 0, none⟩ (.slice (some ⟨g', 0, none⟩) (pre.length + 1) cap')) := ⟨HX.out.1.row.same (hblk _ (by omega) (by omega)), HX.out.1.ents.same (hblk _ (by omega) (by omega)), HX.out.1.ne⟩
    have hA5 : AsideP (fun k => k = b.e ∨ k = gb) W7 (w1.setCell ⟨gb, 0, none⟩ (.slice (some ⟨g', 0, none⟩) (pre.length + 1) cap')) :=
      ⟨hgrow.os.trans HX.out.2.1.os, hgrow.tape.trans HX.out.2.1.tape, hgrow.output.trans HX.out.2.1.output, Nat.le_trans HX.out.2.1.size hk2.size, fun k hk hn => (hblk k hk (fun e => hn (.inr e))).trans (HX.out.2.1.block k hk hn)⟩
    have hK5 := KeepC.append (F := fun k => k = b.e ∨ k = gb) (v' := .slice (some ⟨g', 0, none⟩) (pre.length + 1) cap') hb (by decide) (by decide) (.inr (.inr rfl)) hrow hgrow
    have hkf := hk2.from W7.heap.size
    have hp5 : Row (w1.setCell ⟨gb, 0, none⟩ (.slice (some ⟨g', 0, none⟩) (pre.length + 1) cap')) pb #[.pointer (some ⟨b.g, 0, none⟩)] := (show Row X2 pb _ from ⟨PX, PX'⟩).same (hblk _ (by omega) n5)
    clear hblk hF hcp hcp1 hc1 hf1 hc2 hv1 hb2 hs2' hgrow hown' hb hrow hk2 hc PX PX'
    generalize w1.setCell ⟨gb, 0, none⟩ (.slice (some ⟨g', 0, none⟩) (pre.length + 1) cap') = V5 at *
    have hx5 := hK5.size
    have lg5 := hB5.gl
    have le5 := hB5.el
    have lv5 := hv2.lt
    refine (in_of_calls (Reset_b b first d' V5 hB5 (by omega))).mono ?_
    rintro e V6 ⟨rfl, hB6, hA6⟩
    have hgbe : ¬ gb = b.e := by omega
    obtain ⟨P6, P6'⟩ := hA6.row hp5 qe
    have hv6 : Boxed V6 gb 51 (.slice (some ⟨g', 0, none⟩) (pre.length + 1) cap') := (hA6.block gb lv5 hgbe).trans hv2
    have ho5 := own_base hr2
    have hr6 := own_same hr2 (fun k e => hA6.block k (own_lt hr2 k e) (fun er => by have := ho5 k e; omega))
    have hA6' := hA5.trans (aside_more hA6 (fun k h => .inl h))
    have hK6 := hK5.trans (KeepC.aside1 (F := fun k => k = b.e ∨ k = gb) (n := W7.heap.size) hA6 (.inl rfl))
    have hkf6 := hkf.trans (KeepsFrom.aside hA6 (fun k hk => by omega : ∀ k, (fun k => k = b.e) k → k < W7.heap.size))
    have HB6 := Lib.hid hB6
    clear hB5 hA5 hK5 hkf hp5 hv2 hr2 hA6 hB6 ho5
    gi_wp2_with fail
    refine (in_of_calls (Do_c b first (first + (j : Int) + 1) 3 _ V6 HB6.out h0 (wid_small (by omega) (by omega)))).mono ?_
    rintro e V7 ⟨rfl, hB7', hA7⟩
    have hv7 : Boxed V7 gb 51 (.slice (some ⟨g', 0, none⟩) (pre.length + 1) cap') := (hA7.block gb hv6.lt hgbe).trans hv6
    have ho6 := own_base hr6
    have hr7 := own_same hr6 (fun k e => hA7.block k (own_lt hr6 k e) (fun er => by have := ho6 k e; omega))
    have hA7' := hA6'.trans (aside_more hA7 (fun k h => .inl h))
    have hK7 := hK6.trans (KeepC.aside1 (F := fun k => k = b.e ∨ k = gb) (n := W7.heap.size) hA7 (.inl rfl))
    have hkf7 := hkf6.trans (KeepsFrom.aside hA7 (fun k hk => by omega : ∀ k, (fun k => k = b.e) k → k < W7.heap.size))
    have hc7 := hv7.cell
    have HZ := Lib.hid (And.intro hv7 (And.intro hr7 (And.intro hB7' (And.intro hA7' (And.intro hK7 hkf7)))))
    clear hA6' hK6 hkf6 hv6 hr6 hA7 hB7' ho6 hv7 hr7 hA7' hK7 hkf7 P6 P6' HB6
    gi_wp2
    obtain ⟨z1, z2, z3, z4, z5, z6⟩ := HZ.out
    refine ⟨z6, z5, _, _, z1, ?_, z3, by rw [doL_len, List.length_map]; exact hdl, z4⟩
    rw [List.map_append, List.length_append]
    exact z2
  case done =>
    rintro D X hD ⟨u, d', hb, hrow, hBx, hdl, hA⟩ hK
    obtain ⟨pg, cg, rfl, hcg, hia, -⟩ := own_at (l := (rdyL g0 g1 (allL first d)).map (·.1)) (by rw [List.map_map]; exact hrow) (by simp)
    have hiw : IntsAt X pw ((rdyL g0 g1 (allL first d)).map (·.1)) := fun h0 => by
      obtain ⟨ob, T, e, hr⟩ := HIA7.out h0
      have hq := HBS.out ob e (by simpa using h0)
      exact ⟨ob, T, e, hA.row hr (fun h => by rcases h with h | h <;> omega)⟩
    have hsame := same_c pg pw cg cw _ X hia hiw (by rw [List.length_map]; omega) (by rw [List.length_map]; exact hcg) (by rw [List.length_map]; exact hcw)
    rw [List.length_map] at hsame
    have hDX : D < X.heap.size := (Array.getElem?_eq_some_iff.1 hK).1
    have hwX : Below w.heap.size w X := hA.below hBw7 (fun k h => by rcases h with h | h <;> omega) hBw7.size
    have hc := hb.cell
    have HF := Lib.hid (And.intro hsame (And.intro hK hwX))
    clear hsame hK hwX hia hiw hrow hBx hA hb
    gi_wp2_with fail
    refine (in_of_calls HF.out.1).mono ?_
    rintro e v9 ⟨rfl, hb9⟩
    have hK9 : v9.heap[D]? = some (.deferred (some [])) := (hb9.block D hDX).trans HF.out.2.1
    have hw9 : Below w.heap.size w v9 := HF.out.2.2.trans (hb9.mono HF.out.2.2.size)
    clear hb9
    gi_wp2
    refine leave_mark hK9 (v := .bool true) (by simp [results, Try.results5, go_sem]) ⟨rfl, below_putD hw9 (by omega) _⟩
  case stop =>
    rintro D c pre x post X _ _ h _
    exact h.elim
end Go.Proofs.Ytbglgblngfbhbaa.Bk
