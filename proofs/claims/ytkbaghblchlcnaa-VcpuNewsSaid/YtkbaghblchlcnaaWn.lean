/- The law VcpuLoads, walked. -/
import Derived.Test.YtkbaghblchlcnaaB20
namespace Go.Proofs.Ytkbaghblchlcnaa.Lr
open Go.RowKit Go.Shelf Go.Proofs.YtkbaghblchlcnaaW.PrintWords Go.Proofs.Ytkbaghblchlcnaa.IAll
attribute [local go_sem] Oper.semAt_some cell_row frozen_row isRow_setCell_eq rowAt_setCell_same rowAt_setCell_other isRow_alloc_eq rowAt_alloc rowAt_new rowAt_new' isRow_setRow_eq rowAt_setRow_same rowAt_setRow_other isRow_drew rowAt_drew size_setRow_ Lb_size Lb_at blk_ptr aggOf_agg below_alloc_e below_setCell_e below_setRow_e below_refl_e below_drew_r aside2_alloc_e aside2_setCell_e aside2_setRow_e aside2_drew_e aside2_refl_e aside2_drewN_e isRow_drewN rowAt_drewN below_drewN_e le_add_r offv_ptr one_lad zero_lad allOne_nil allOne_cons Value.oneCell' addr_at FA_size one_FA FA_size
attribute [local go_sem ↓] storeI storeC storeE
attribute [local go_sem] eq2i eq2b eq2u
theorem nf_tgt (ls : List S54) (n : Nat) : nf (tgt ls n) = nf ls := by
  unfold tgt nf
  rw [List.filter_append, List.filter_replicate_of_neg (by decide), List.append_nil]
theorem nf_rep (n : Nat) : nf (List.replicate n z54) = [] := by
  unfold nf
  exact List.filter_replicate_of_neg (by decide)
theorem pl_rep (n : Nat) : ∀ k : Nat, (pl pFree (List.replicate n z54) k).length = k
  | 0 => rfl
  | k + 1 => by
    rw [pl, if_pos (by unfold pFree; rw [rep_f0]; rfl), List.length_append, pl_rep n k]; rfl
theorem used0 {w : World} {bl n : Nat} (h16 : n ≤ 16) (h : isRow w bl) (h' : rowAt w bl = FA (List.replicate n z54)) : Calls Try.prog 14 #[.slice (some ⟨bl, 0, none⟩) n n] w fun e w' => e = .returned (.int .i64 0) ∧ Below w.heap.size w w' := by
  have hl : (List.replicate n z54).length = n := List.length_replicate
  have q := lr_Used.calls (some ⟨bl, 0, none⟩) n (List.replicate n z54) 0 w (fa_kd h h' (by omega)) (by omega) (by
    unfold lr_Used.f
    rw [if_pos (by omega)]
    unfold places
    rw [pl_rep, Int.sub_self])
  rw [hl] at q
  exact q
theorem own_same {w : World} {A1 A2 : Option Addr} {c1 c2 : Nat} {xs : List S54} (hl : xs.length ≤ 16) (h1 : Kd.C k54 w A1 xs.length xs) (g1 : xs.length ≤ c1) (h2 : Kd.C k54 w A2 xs.length xs) (g2 : xs.length ≤ c2) :
    Calls Try.prog 21 #[.slice A1 xs.length c1, .slice A2 xs.length c2] w fun e w' => e = .returned (.bool true) ∧ Below w.heap.size w w' :=
  (crierlaw21_same.calls _ _ _ xs _ _ xs true w h1 g1 h2 g2 (same_is xs (by omega))).mono fun _ _ q => ⟨q.1, below_drawn0 q.2⟩
set_option maxRecDepth 100000 in
set_option maxHeartbeats 4000000 in
theorem loads_law (c : Int) (c0 : 0 ≤ c) (m' p0' p1' : Int) (o0' o1' sp' : Bool) (a' b' : Int) (ha : 0 ≤ a') (ha2 : a' ≤ 4294967295) (hb : 0 ≤ b') (hb2 : b' ≤ 4294967295) (w : World) (B : Option Addr) (cB : Nat) (sc : List VA) (hS : ScOk w B sc) (A : Option Addr) (cA : Nat) (ls : List S54) (hC : Kd.C k54 w A ls.length ls) (hcA : ls.length ≤ cA) :
    Calls Try.prog 7 #[.int .u8 c, .agg #[.int .i64 m', .int .i64 p0', .int .i64 p1', .bool o0', .bool o1', .bool sp', .int .u32 a', .int .u32 b'], .slice B sc.length cB, .slice A ls.length cA] w fun e w' => e = .returned (.bool true) ∧ Below w.heap.size w w' := by
  obtain ⟨n, hn, h1, h2⟩ : ∃ n : Nat, 1 + c % 16 = (n : Int) ∧ 1 ≤ n ∧ n ≤ 16 := ⟨(1 + c % 16).toNat, by omega, by omega, by omega⟩
  have hO := (runA_ok n ⟨m', p0', p1', o0', o1', sp', a', b', List.replicate n z54, 0⟩ sc ⟨List.length_replicate, h2, by omega, rep_st n, Int.le_refl 0, by show (0 : Int) ≤ 4611686018427387904; omega⟩ rfl hS.len) sc.length (Nat.le_refl _)
  have HC := Lib.hid hC
  clear hC
  have HP := Lib.hid (fun (W : World) (h : ScOk W B sc) => played_c n h1 h2 c hn c0 m' p0' p1' o0' o1' sp' a' b' ha ha2 hb hb2 W B cB sc h)
  have HS := Lib.hid hS
  clear hS
  generalize runA n ⟨m', p0', p1', o0', o1', sp', a', b', List.replicate n z54, 0⟩ sc sc.length = s at *
  obtain ⟨⟨hlen, h16, h0, hst, hlo, hhi⟩, -⟩ := hO
  obtain ⟨m, p0, p1, o0, o1, sp, a, b, ys, lost⟩ := s
  simp only at hlen hst hlo hhi
  subst hlen
  go_enter Try.func7, Try.ntmps7
  have hB_0 : Below w.heap.size w w := Below.refl _ _
  go_wp2_with fail
  refine (awake_c _).mono ?_
  rintro e v1 ⟨rfl, hb1⟩
  obtain ⟨F_1, F_1'⟩ : Row v1 w.heap.size #[.int .i64 m', .int .i64 p0', .int .i64 p1', .bool o0', .bool o1', .bool sp', .int .u32 a', .int .u32 b'] := Row.step (by go_simp) (by go_simp) hb1
  have hB_1 : Below w.heap.size w v1 := bk (by go_simp) (by first | (go_simp; done) | (go_simp; omega) | exact Below.size (by assumption)) hb1
  clear hB_0 hb1
  have hz_1 : w.heap.size ≤ v1.heap.size := hB_1.size
  have hl_F_1 := isRow.lt F_1
  have ne_F_1_0 : ¬ w.heap.size = v1.heap.size := by omega
  have en_F_1_0 : ¬ v1.heap.size = w.heap.size := by omega
  have ne_F_1_1 : ¬ w.heap.size = v1.heap.size + 1 := by omega
  have en_F_1_1 : ¬ v1.heap.size + 1 = w.heap.size := by omega
  go_wp2_with fail
  refine (HP.out _ (HS.out.below hB_1)).mono ?_
  rintro e v0 ⟨gv, lv, rfl, hV0, hL0, n12, g1, g2, hb0⟩
  obtain ⟨V0, V0'⟩ : Row v0 gv #[.int .i64 m, .int .i64 p0, .int .i64 p1, .bool o0, .bool o1, .bool sp, .int .u32 a, .int .u32 b, .slice (some ⟨lv, 0, none⟩) ys.length ys.length, .int .i64 lost] := hV0
  obtain ⟨L0, L0'⟩ : Row v0 lv (FA ys) := hL0
  have hB0 : Below w.heap.size w v0 := bk hB_1 hB_1.size hb0
  have gw1 : w.heap.size ≤ gv := Nat.le_trans hB_1.size g1
  have gw2 : w.heap.size ≤ lv := Nat.le_trans hB_1.size g2
  have n21 : ¬ lv = gv := fun e => n12 e.symm
  clear hb0 F_1 F_1' hB_1 HP HS g1 g2 hn h1 h2
  have hS : SOk ys.length ⟨m, p0, p1, o0, o1, sp, a, b, ys, lost⟩ := ⟨rfl, h16, h0, hst, hlo, hhi⟩
  by_cases hg : ls.length ≤ ys.length ∧ goodL ls
  · obtain ⟨hg1, hg2⟩ := hg
    have hL : ∀ W, Below w.heap.size w W → isRow W gv → rowAt W gv = #[.int .i64 m, .int .i64 p0, .int .i64 p1, .bool o0, .bool o1, .bool sp, .int .u32 a, .int .u32 b, .slice (some ⟨lv, 0, none⟩) ys.length ys.length, .int .i64 lost] → isRow W lv → rowAt W lv = FA ys → Calls Try.prog 16 #[.pointer (some ⟨gv, 0, none⟩), .slice A ls.length cA] W fun e w' => e = .returned (.int .i64 0) ∧ Row w' gv #[.int .i64 m, .int .i64 p0, .int .i64 p1, .bool o0, .bool o1, .bool sp, .int .u32 a, .int .u32 b, .slice (some ⟨lv, 0, none⟩) ys.length ys.length, .int .i64 lost] ∧ Row w' lv (FA (tgt ls ys.length)) ∧ Aside2 gv lv W w' := fun W qb q1 q2 q3 q4 => by
      have q := vload_c ys.length gv lv ⟨m, p0, p1, o0, o1, sp, a, b, ys, lost⟩ hS n12 W q3 q4 A cA ls (Kd.C_below HC.out qb) hcA (fun ad e hn => by have q0 := blk_lt HC.out ad e hn; have q5 := qb.size; exact ⟨by omega, by omega⟩) q1 q2
      unfold loadS loadN loadXs at q
      rw [if_neg (by omega), if_pos hg2] at q
      simp only [if_neg (show ¬ ys.length < ls.length by omega), if_pos hg2] at q
      exact q
    have HL := Lib.hid hL
    have hS2 : SOk ys.length ⟨m, p0, p1, o0, o1, sp, a, b, (tgt ls ys.length), lost⟩ := ⟨tgt_length ls _ hg1, h16, h0, by
      have q := loadXs_st ys.length ys ls hst
      unfold loadXs at q
      rw [if_neg (by omega), if_pos hg2] at q
      exact q, hlo, hhi⟩
    have hS3 : SOk ys.length ⟨m, p0, p1, o0, o1, sp, a, b, (List.replicate ys.length z54), lost⟩ := ⟨List.length_replicate, h16, h0, rep_st _, hlo, hhi⟩
    have HS2 := Lib.hid hS2
    have HS3 := Lib.hid hS3
    have HG := Lib.hid hg2
    clear hL hS hS2 hS3 hg2
    go_wp2_with (at_builtin; refine Kd.R_append_rows k54 (Rr := k54.K v0) (w0 := v0) v0.heap.size rfl _ _ 22 54 (.agg (enc z54)) 56 rfl Try.underlying22 infoL5 rfl (by decide) (by decide) _ ([] : List S54) ys (some ⟨lv, 0, none⟩) ys.length ys.length (fun _ => True) (fun _ => False) rfl rfl (Kd.R_nil _ _ _ _ _) (fa_kd L0 L0' (by omega)) (fun p cs hp => by rw [k54_open hp]; exact k54_mkM _ _ _ _) (fun _ h => h.elim) (fun _ _ => trivial) (Below.refl _ _) (by simp) (by simp; omega) ?_; intro x_ v1 hR_ hb1 _ _; refine stop_in ?_)
    refine stop_out ?_
    rw [List.nil_append] at hR_
    obtain ⟨ob, cO, csO, rfl, hcO, hob, ⟨O_1, O_1'⟩, hpO⟩ := copied hR_ h0
    clear hR_
    have ne_V_O : ¬ gv = ob := by have := isRow.lt V0; omega
    have en_V_O : ¬ ob = gv := by omega
    have ne_L_O : ¬ lv = ob := by have := isRow.lt L0; omega
    have en_L_O : ¬ ob = lv := by omega
    have hwob : w.heap.size ≤ ob := Nat.le_trans hB0.size hob
    obtain ⟨V_1, V_1'⟩ : Row v1 gv #[.int .i64 m, .int .i64 p0, .int .i64 p1, .bool o0, .bool o1, .bool sp, .int .u32 a, .int .u32 b, .slice (some ⟨lv, 0, none⟩) ys.length ys.length, .int .i64 lost] := Row.step (by go_simp) (by go_simp) hb1
    obtain ⟨L_1, L_1'⟩ : Row v1 lv (FA ys) := Row.step (by go_simp) (by go_simp) hb1
    have hB_1 : Below w.heap.size w v1 := bk (by go_simp) (by first | (go_simp; done) | (go_simp; omega) | exact Below.size (by assumption)) hb1
    clear V0 V0' L0 L0' hB0 hb1
    have hz_1 : w.heap.size ≤ v1.heap.size := hB_1.size
    have hl_V_1 := isRow.lt V_1
    have ne_V_1_0 : ¬ gv = v1.heap.size := by omega
    have en_V_1_0 : ¬ v1.heap.size = gv := by omega
    have ne_V_1_1 : ¬ gv = v1.heap.size + 1 := by omega
    have en_V_1_1 : ¬ v1.heap.size + 1 = gv := by omega
    have hl_L_1 := isRow.lt L_1
    have ne_L_1_0 : ¬ lv = v1.heap.size := by omega
    have en_L_1_0 : ¬ v1.heap.size = lv := by omega
    have ne_L_1_1 : ¬ lv = v1.heap.size + 1 := by omega
    have en_L_1_1 : ¬ v1.heap.size + 1 = lv := by omega
    have hl_O_1 := isRow.lt O_1
    have ne_O_1_0 : ¬ ob = v1.heap.size := by omega
    have en_O_1_0 : ¬ v1.heap.size = ob := by omega
    have ne_O_1_1 : ¬ ob = v1.heap.size + 1 := by omega
    have en_O_1_1 : ¬ v1.heap.size + 1 = ob := by omega
    go_wp2_with fail
    refine (HL.out _ hB_1 (by go_simp) (by go_simp) (by go_simp) (by go_simp)).mono ?_
    rintro e v2 ⟨rfl, ⟨V_2, V_2'⟩, ⟨L_2, L_2'⟩, hA2⟩
    obtain ⟨O_2, O_2'⟩ : Row v2 ob csO := hA2.row ⟨by go_simp, by go_simp⟩ (by omega) (by omega)
    have hB_2 : Below w.heap.size w v2 := hA2.below (by go_simp) (by first | omega | (go_simp; done) | (go_simp; omega)) (by first | omega | (go_simp; done) | (go_simp; omega)) (by first | (go_simp; done) | (go_simp; omega) | exact Below.size (by assumption))
    clear V_1 V_1' L_1 L_1' O_1 O_1' hB_1 hA2
    have hz_2 : w.heap.size ≤ v2.heap.size := hB_2.size
    have hl_V_2 := isRow.lt V_2
    have ne_V_2_0 : ¬ gv = v2.heap.size := by omega
    have en_V_2_0 : ¬ v2.heap.size = gv := by omega
    have ne_V_2_1 : ¬ gv = v2.heap.size + 1 := by omega
    have en_V_2_1 : ¬ v2.heap.size + 1 = gv := by omega
    have hl_L_2 := isRow.lt L_2
    have ne_L_2_0 : ¬ lv = v2.heap.size := by omega
    have en_L_2_0 : ¬ v2.heap.size = lv := by omega
    have ne_L_2_1 : ¬ lv = v2.heap.size + 1 := by omega
    have en_L_2_1 : ¬ v2.heap.size + 1 = lv := by omega
    have hl_O_2 := isRow.lt O_2
    have ne_O_2_0 : ¬ ob = v2.heap.size := by omega
    have en_O_2_0 : ¬ v2.heap.size = ob := by omega
    have ne_O_2_1 : ¬ ob = v2.heap.size + 1 := by omega
    have en_O_2_1 : ¬ v2.heap.size + 1 = ob := by omega
    have hCl : Kd.C k54 v2 A ls.length ls := Kd.C_below HC.out hB_2
    have HCl := Lib.hid hCl
    obtain ⟨i0, hi, hz0, hz1, hz2⟩ := info_parts infoL3
    clear hCl HC HL
    go_wp2_with fail
    go_loopw [12, 13] (fun v i wr => ∃ k : Nat, k ≤ ls.length ∧ i = .int .i64 k ∧ wr.ownsRow v2.heap.size 54 7 v (nf (ls.take k)).length (fl (nf (ls.take k))) ∧ Below v2.heap.size v2 wr) (fun _ i _ => ls.length - (intOf i).toNat)
    case atStart => exact ⟨0, by omega, rfl, World.ownsRow_nil _ _ _ _, Below.refl _ _⟩
    case round =>
      obtain ⟨k, hk, rfl, hrow, hB⟩ := hrel
      have hsz : v2.heap.size ≤ wr.heap.size := hB.size
      by_cases hkn : k < ls.length
      · have k1 : (0 : Int) ≤ (k : Int) := by omega
        have k2 : (k : Int) < (ls.length : Int) := by omega
        obtain ⟨ad, e, c0, c1, c2, c3, c4, c5, c6⟩ := at_T54 (Kd.C_below HCl.out hB) (k : Int) (by omega) (by omega)
        subst e
        have hnt := nf_take ls k hkn
        have hnl := nf_length (ls.take k)
        rw [List.length_take] at hnl
        generalize hY : nf (ls.take k) = zs at *
        generalize hE : rd_T54 ls k = el at *
        have hfe : fl (zs ++ [el]) = fl zs ++ (enc el).toList := fl_snoc zs el
        obtain ⟨s0, s1, s2, s3, s4, s5, s6⟩ := el
        simp only [Int.toNat_natCast] at c0 c1 c2 c3 c4 c5 c6 hnt
        have HFE := Lib.hid hfe
        by_cases hst1 : (s0 != 0) = true
        · rw [if_pos hst1] at hnt
          have HNT := Lib.hid hnt
          clear hY hE hnt hfe V_2 V_2' L_2 L_2' O_2 O_2' hB_2
          go_wp2_with (at_builtin; refine wpList_append_own _ rfl _ _ 22 rfl v2.heap.size 54 i0 (.agg (enc z54)) 7 56 Try.underlying22 hi hz0 hz1 hz2 rfl (by decide) _ _ _ rfl (hrow.alloc _) ⟨wr.heap.size, 0, none⟩ 1 1 [.int .i64 s0, .int .i64 s1, .int .i64 s2, .int .i64 s3, .bool s4, .int .i64 s5, .bool s6] rfl rfl (cells_new _ #[.int .i64 s0, .int .i64 s1, .int .i64 s2, .int .i64 s3, .bool s4, .int .i64 s5, .bool s6] _) (by simp [Value.oneCell']) (by unfold maxLen; omega) (by omega) (by simp; omega) ?_; intro v' w1 hown' hgrow _; have hBo := own_below hrow hsz hgrow)
          go_roundw
          case rel => exact ⟨k + 1, by omega, by go_num, by rw [HNT.out, HFE.out]; simpa [enc] using hown', hB.trans hBo⟩
          case measure => simp [intOf]; omega
        · rw [if_neg hst1, List.append_nil] at hnt
          have hst' : (s0 != 0) = false := by simpa using hst1
          have HNT := Lib.hid hnt
          clear hY hE hnt hfe hst1 V_2 V_2' L_2 L_2' O_2 O_2' hB_2
          go_wp2
          go_roundw
          case rel => exact ⟨k + 1, by omega, by go_num, by rw [HNT.out]; exact hrow, hB⟩
          case measure => simp [intOf]; omega
      · obtain rfl : k = ls.length := by omega
        rw [List.take_of_length_le (Nat.le_refl _)] at hrow
        obtain ⟨VG, VG'⟩ : Row wr gv #[.int .i64 m, .int .i64 p0, .int .i64 p1, .bool o0, .bool o1, .bool sp, .int .u32 a, .int .u32 b, .slice (some ⟨lv, 0, none⟩) ys.length ys.length, .int .i64 lost] := Row.step V_2 V_2' hB
        obtain ⟨LG, LG'⟩ : Row wr lv (FA (tgt ls ys.length)) := Row.step L_2 L_2' hB
        obtain ⟨OG, OG'⟩ : Row wr ob csO := Row.step O_2 O_2' hB
        have hBw : Below w.heap.size w wr := hB_2.trans (hB.mono hz_2)
        have HR := Lib.hid hrow
        clear hrow V_2 V_2' L_2 L_2' O_2 O_2' HCl hB_2
        go_wp2_with fail
        refine (vunload_c ys.length gv lv ⟨m, p0, p1, o0, o1, sp, a, b, (tgt ls ys.length), lost⟩ HS2.out n12 _ LG LG' VG VG').mono ?_
        rintro e v3 ⟨got, rfl, hgot, ⟨V_3, V_3'⟩, ⟨L_3, L_3'⟩, hA3⟩
        replace V_3' : rowAt v3 gv = #[.int .i64 m, .int .i64 p0, .int .i64 p1, .bool o0, .bool o1, .bool sp, .int .u32 a, .int .u32 b, .slice (some ⟨lv, 0, none⟩) ys.length ys.length, .int .i64 lost] := V_3'
        replace L_3' : rowAt v3 lv = FA (List.replicate ys.length z54) := L_3'
        have hOw := aside2_own HR.out hA3 hl_V_2 hl_L_2
        have hn16 : (nf ls).length ≤ 16 := Nat.le_trans (nf_length ls) (by omega)
        rw [show nf (⟨m, p0, p1, o0, o1, sp, a, b, tgt ls ys.length, lost⟩ : VS).xs = nf ls from nf_tgt ls ys.length] at hgot
        obtain ⟨A1, c1, rfl, g1, hC1⟩ := own_reads hgot (by omega)
        obtain ⟨A2, c2, rfl, g2, hC2⟩ := own_reads hOw (by omega)
        have HC1 := Lib.hid hC1
        have HC2 := Lib.hid hC2
        obtain ⟨O_3, O_3'⟩ : Row v3 ob csO := hA3.row ⟨OG, OG'⟩ (by omega) (by omega)
        have hB_3 : Below w.heap.size w v3 := hA3.below hBw gw1 gw2 hBw.size
        clear hgot hOw hC1 hC2 HR VG VG' LG LG' OG OG' hBw hA3 hB hsz
        go_wp2_with fail
        refine (own_same hn16 HC1.out g1 HC2.out g2).mono ?_
        rintro e v1 ⟨rfl, hb1⟩
        obtain ⟨V_1, V_1'⟩ : Row v1 gv #[.int .i64 m, .int .i64 p0, .int .i64 p1, .bool o0, .bool o1, .bool sp, .int .u32 a, .int .u32 b, .slice (some ⟨lv, 0, none⟩) ys.length ys.length, .int .i64 lost] := Row.step (by go_simp) (by go_simp) hb1
        obtain ⟨L_1, L_1'⟩ : Row v1 lv (FA (List.replicate ys.length z54)) := Row.step (by go_simp) (by go_simp) hb1
        obtain ⟨O_1, O_1'⟩ : Row v1 ob csO := Row.step (by go_simp) (by go_simp) hb1
        have hB_1 : Below w.heap.size w v1 := bk (by go_simp) (by first | (go_simp; done) | (go_simp; omega) | exact Below.size (by assumption)) hb1
        clear V_3 V_3' L_3 L_3' O_3 O_3' hB_3 hb1
        have hz_1 : w.heap.size ≤ v1.heap.size := hB_1.size
        have hl_V_1 := isRow.lt V_1
        have ne_V_1_0 : ¬ gv = v1.heap.size := by omega
        have en_V_1_0 : ¬ v1.heap.size = gv := by omega
        have hl_L_1 := isRow.lt L_1
        have ne_L_1_0 : ¬ lv = v1.heap.size := by omega
        have en_L_1_0 : ¬ v1.heap.size = lv := by omega
        have hl_O_1 := isRow.lt O_1
        have ne_O_1_0 : ¬ ob = v1.heap.size := by omega
        have en_O_1_0 : ¬ v1.heap.size = ob := by omega
        go_wp2_with fail
        refine (used0 h16 (by go_simp) (by go_simp)).mono ?_
        rintro e v2 ⟨rfl, hb2⟩
        obtain ⟨V_2, V_2'⟩ : Row v2 gv #[.int .i64 m, .int .i64 p0, .int .i64 p1, .bool o0, .bool o1, .bool sp, .int .u32 a, .int .u32 b, .slice (some ⟨lv, 0, none⟩) ys.length ys.length, .int .i64 lost] := Row.step (by go_simp) (by go_simp) hb2
        obtain ⟨L_2, L_2'⟩ : Row v2 lv (FA (List.replicate ys.length z54)) := Row.step (by go_simp) (by go_simp) hb2
        obtain ⟨O_2, O_2'⟩ : Row v2 ob csO := Row.step (by go_simp) (by go_simp) hb2
        have hB_2 : Below w.heap.size w v2 := bk (by go_simp) (by first | (go_simp; done) | (go_simp; omega) | exact Below.size (by assumption)) hb2
        clear V_1 V_1' L_1 L_1' O_1 O_1' hB_1 hb2
        have hz_2 : w.heap.size ≤ v2.heap.size := hB_2.size
        have hl_V_2 := isRow.lt V_2
        have ne_V_2_0 : ¬ gv = v2.heap.size := by omega
        have en_V_2_0 : ¬ v2.heap.size = gv := by omega
        have hl_L_2 := isRow.lt L_2
        have ne_L_2_0 : ¬ lv = v2.heap.size := by omega
        have en_L_2_0 : ¬ v2.heap.size = lv := by omega
        have hl_O_2 := isRow.lt O_2
        have ne_O_2_0 : ¬ ob = v2.heap.size := by omega
        have en_O_2_0 : ¬ v2.heap.size = ob := by omega
        go_wp2_with fail
        refine (vunload_c ys.length gv lv ⟨m, p0, p1, o0, o1, sp, a, b, (List.replicate ys.length z54), lost⟩ HS3.out n12 _ L_2 L_2' V_2 V_2').mono ?_
        rintro e v4 ⟨got2, rfl, hgot2, ⟨V_4, V_4'⟩, ⟨L_4, L_4'⟩, hA4⟩
        rw [show nf (⟨m, p0, p1, o0, o1, sp, a, b, List.replicate ys.length z54, lost⟩ : VS).xs = [] from nf_rep ys.length] at hgot2
        obtain ⟨A3, c3, rfl, -, -⟩ := own_reads hgot2 (by decide)
        replace V_4' : rowAt v4 gv = #[.int .i64 m, .int .i64 p0, .int .i64 p1, .bool o0, .bool o1, .bool sp, .int .u32 a, .int .u32 b, .slice (some ⟨lv, 0, none⟩) ys.length ys.length, .int .i64 lost] := V_4'
        replace L_4' : rowAt v4 lv = FA (List.replicate ys.length z54) := L_4'
        have hB_4 : Below w.heap.size w v4 := hA4.below hB_2 gw1 gw2 hB_2.size
        clear hgot2 V_2 V_2' L_2 L_2' O_2 O_2' hB_2 hA4
        go_wp2
        go_ret
        exact ⟨rfl, by go_simp⟩
  · obtain ⟨LN, hLN, hL⟩ : ∃ LN : Int, (LN != 0) = true ∧ (∀ W, Below w.heap.size w W → isRow W gv → rowAt W gv = #[.int .i64 m, .int .i64 p0, .int .i64 p1, .bool o0, .bool o1, .bool sp, .int .u32 a, .int .u32 b, .slice (some ⟨lv, 0, none⟩) ys.length ys.length, .int .i64 lost] → isRow W lv → rowAt W lv = FA ys → Calls Try.prog 16 #[.pointer (some ⟨gv, 0, none⟩), .slice A ls.length cA] W fun e w' => e = .returned (.int .i64 LN) ∧ Row w' gv #[.int .i64 m, .int .i64 p0, .int .i64 p1, .bool o0, .bool o1, .bool sp, .int .u32 a, .int .u32 b, .slice (some ⟨lv, 0, none⟩) ys.length ys.length, .int .i64 lost] ∧ Row w' lv (FA ys) ∧ Aside2 gv lv W w') := by
      by_cases hlt : ys.length < ls.length
      · exact ⟨1, rfl, fun W qb q1 q2 q3 q4 => by
          have q := vload_c ys.length gv lv ⟨m, p0, p1, o0, o1, sp, a, b, ys, lost⟩ hS n12 W q3 q4 A cA ls (Kd.C_below HC.out qb) hcA (fun ad e hn => by have q0 := blk_lt HC.out ad e hn; have q5 := qb.size; exact ⟨by omega, by omega⟩) q1 q2
          unfold loadS loadN loadXs at q
          simp only [if_pos hlt] at q
          exact q⟩
      · have hng : ¬ goodL ls := fun q => hg ⟨by omega, q⟩
        exact ⟨200, rfl, fun W qb q1 q2 q3 q4 => by
          have q := vload_c ys.length gv lv ⟨m, p0, p1, o0, o1, sp, a, b, ys, lost⟩ hS n12 W q3 q4 A cA ls (Kd.C_below HC.out qb) hcA (fun ad e hn => by have q0 := blk_lt HC.out ad e hn; have q5 := qb.size; exact ⟨by omega, by omega⟩) q1 q2
          unfold loadS loadN loadXs at q
          simp only [if_neg hlt, if_neg hng] at q
          exact q⟩
    have HL := Lib.hid hL
    clear hL hS hg
    go_wp2_with (at_builtin; refine Kd.R_append_rows k54 (Rr := k54.K v0) (w0 := v0) v0.heap.size rfl _ _ 22 54 (.agg (enc z54)) 56 rfl Try.underlying22 infoL5 rfl (by decide) (by decide) _ ([] : List S54) ys (some ⟨lv, 0, none⟩) ys.length ys.length (fun _ => True) (fun _ => False) rfl rfl (Kd.R_nil _ _ _ _ _) (fa_kd L0 L0' (by omega)) (fun p cs hp => by rw [k54_open hp]; exact k54_mkM _ _ _ _) (fun _ h => h.elim) (fun _ _ => trivial) (Below.refl _ _) (by simp) (by simp; omega) ?_; intro x_ v1 hR_ hb1 _ _; refine stop_in ?_)
    refine stop_out ?_
    rw [List.nil_append] at hR_
    obtain ⟨ob, cO, csO, rfl, hcO, hob, ⟨O_1, O_1'⟩, hpO⟩ := copied hR_ h0
    clear hR_
    have ne_V_O : ¬ gv = ob := by have := isRow.lt V0; omega
    have en_V_O : ¬ ob = gv := by omega
    have ne_L_O : ¬ lv = ob := by have := isRow.lt L0; omega
    have en_L_O : ¬ ob = lv := by omega
    have hwob : w.heap.size ≤ ob := Nat.le_trans hB0.size hob
    obtain ⟨V_1, V_1'⟩ : Row v1 gv #[.int .i64 m, .int .i64 p0, .int .i64 p1, .bool o0, .bool o1, .bool sp, .int .u32 a, .int .u32 b, .slice (some ⟨lv, 0, none⟩) ys.length ys.length, .int .i64 lost] := Row.step (by go_simp) (by go_simp) hb1
    obtain ⟨L_1, L_1'⟩ : Row v1 lv (FA ys) := Row.step (by go_simp) (by go_simp) hb1
    have hB_1 : Below w.heap.size w v1 := bk (by go_simp) (by first | (go_simp; done) | (go_simp; omega) | exact Below.size (by assumption)) hb1
    clear V0 V0' L0 L0' hB0 hb1
    have hz_1 : w.heap.size ≤ v1.heap.size := hB_1.size
    have hl_V_1 := isRow.lt V_1
    have ne_V_1_0 : ¬ gv = v1.heap.size := by omega
    have en_V_1_0 : ¬ v1.heap.size = gv := by omega
    have ne_V_1_1 : ¬ gv = v1.heap.size + 1 := by omega
    have en_V_1_1 : ¬ v1.heap.size + 1 = gv := by omega
    have hl_L_1 := isRow.lt L_1
    have ne_L_1_0 : ¬ lv = v1.heap.size := by omega
    have en_L_1_0 : ¬ v1.heap.size = lv := by omega
    have ne_L_1_1 : ¬ lv = v1.heap.size + 1 := by omega
    have en_L_1_1 : ¬ v1.heap.size + 1 = lv := by omega
    have hl_O_1 := isRow.lt O_1
    have ne_O_1_0 : ¬ ob = v1.heap.size := by omega
    have en_O_1_0 : ¬ v1.heap.size = ob := by omega
    have ne_O_1_1 : ¬ ob = v1.heap.size + 1 := by omega
    have en_O_1_1 : ¬ v1.heap.size + 1 = ob := by omega
    go_wp2_with fail
    refine (HL.out _ hB_1 (by go_simp) (by go_simp) (by go_simp) (by go_simp)).mono ?_
    rintro e v2 ⟨rfl, ⟨V_2, V_2'⟩, ⟨L_2, L_2'⟩, hA2⟩
    obtain ⟨O_2, O_2'⟩ : Row v2 ob csO := hA2.row ⟨by go_simp, by go_simp⟩ (by omega) (by omega)
    have hB_2 : Below w.heap.size w v2 := hA2.below (by go_simp) (by first | omega | (go_simp; done) | (go_simp; omega)) (by first | omega | (go_simp; done) | (go_simp; omega)) (by first | (go_simp; done) | (go_simp; omega) | exact Below.size (by assumption))
    clear V_1 V_1' L_1 L_1' O_1 O_1' hB_1 hA2
    have hz_2 : w.heap.size ≤ v2.heap.size := hB_2.size
    have hl_V_2 := isRow.lt V_2
    have ne_V_2_0 : ¬ gv = v2.heap.size := by omega
    have en_V_2_0 : ¬ v2.heap.size = gv := by omega
    have ne_V_2_1 : ¬ gv = v2.heap.size + 1 := by omega
    have en_V_2_1 : ¬ v2.heap.size + 1 = gv := by omega
    have hl_L_2 := isRow.lt L_2
    have ne_L_2_0 : ¬ lv = v2.heap.size := by omega
    have en_L_2_0 : ¬ v2.heap.size = lv := by omega
    have ne_L_2_1 : ¬ lv = v2.heap.size + 1 := by omega
    have en_L_2_1 : ¬ v2.heap.size + 1 = lv := by omega
    have hl_O_2 := isRow.lt O_2
    have ne_O_2_0 : ¬ ob = v2.heap.size := by omega
    have en_O_2_0 : ¬ v2.heap.size = ob := by omega
    have ne_O_2_1 : ¬ ob = v2.heap.size + 1 := by omega
    have en_O_2_1 : ¬ v2.heap.size + 1 = ob := by omega
    go_wp2_with fail
    refine (same_c h16 (by go_simp) (by go_simp) hpO hcO (by go_simp) (by go_simp) (Nat.le_refl _)).mono ?_
    rintro e v3 ⟨rfl, hb3⟩
    obtain ⟨V_3, V_3'⟩ : Row v3 gv #[.int .i64 m, .int .i64 p0, .int .i64 p1, .bool o0, .bool o1, .bool sp, .int .u32 a, .int .u32 b, .slice (some ⟨lv, 0, none⟩) ys.length ys.length, .int .i64 lost] := Row.step (by go_simp) (by go_simp) hb3
    obtain ⟨L_3, L_3'⟩ : Row v3 lv (FA ys) := Row.step (by go_simp) (by go_simp) hb3
    obtain ⟨O_3, O_3'⟩ : Row v3 ob csO := Row.step (by go_simp) (by go_simp) hb3
    have hB_3 : Below w.heap.size w v3 := bk (by go_simp) (by first | (go_simp; done) | (go_simp; omega) | exact Below.size (by assumption)) hb3
    clear V_2 V_2' L_2 L_2' O_2 O_2' hB_2 hb3
    have hz_3 : w.heap.size ≤ v3.heap.size := hB_3.size
    have hl_V_3 := isRow.lt V_3
    have ne_V_3_0 : ¬ gv = v3.heap.size := by omega
    have en_V_3_0 : ¬ v3.heap.size = gv := by omega
    have ne_V_3_1 : ¬ gv = v3.heap.size + 1 := by omega
    have en_V_3_1 : ¬ v3.heap.size + 1 = gv := by omega
    have hl_L_3 := isRow.lt L_3
    have ne_L_3_0 : ¬ lv = v3.heap.size := by omega
    have en_L_3_0 : ¬ v3.heap.size = lv := by omega
    have ne_L_3_1 : ¬ lv = v3.heap.size + 1 := by omega
    have en_L_3_1 : ¬ v3.heap.size + 1 = lv := by omega
    have hl_O_3 := isRow.lt O_3
    have ne_O_3_0 : ¬ ob = v3.heap.size := by omega
    have en_O_3_0 : ¬ v3.heap.size = ob := by omega
    have ne_O_3_1 : ¬ ob = v3.heap.size + 1 := by omega
    have en_O_3_1 : ¬ v3.heap.size + 1 = ob := by omega
    go_wp2
    go_ret
    exact ⟨rfl, by go_simp⟩
end Go.Proofs.Ytkbaghblchlcnaa.Lr
