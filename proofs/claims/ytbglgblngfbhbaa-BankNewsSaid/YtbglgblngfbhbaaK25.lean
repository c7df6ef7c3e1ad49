/- Which banks there may be. -/
import Derived.Test.YtbglgblngfbhbaaK24
namespace Go.Proofs.Ytbglgblngfbhbaa.Bk
open Go.RowKit Go.Shelf Go.Proofs.Ytbglgblngfbhbaa.IAll Go.Proofs.YtbglgblngfbhbaaW.PrintWords Go.Proofs.YtbglgblngfbhbaaW.PrintLast Go.Proofs.YtbglgblngfbhbaaW.PrintMore
set_option linter.unusedVariables false
set_option linter.unusedSectionVars false
set_option linter.unusedSimpArgs false
attribute [local go_sem] Oper.semAt_some cell_row frozen_row isRow_setCell_eq rowAt_setCell_same rowAt_setCell_other isRow_alloc_eq rowAt_alloc rowAt_new rowAt_new' isRow_setRow_eq rowAt_setRow_same rowAt_setRow_other isRow_drew rowAt_drew size_setRow_ size_drew_ blk_ptr aggOf_agg offv_ptr below_alloc_e below_setCell_e below_setRow_e below_refl_e below_drew_r isRow_drewN rowAt_drewN below_drewN_e le_add_r asideP_alloc_e asideP_setCell_e asideP_setRow_e asideP_drew_e asideP_drewN_e asideP_refl_e allOne_nil allOne_cons Value.oneCell' addr_at mid_FT vE_size vL_size vQ_size vC_size vS_size vP_size vE_one vL_one vQ_one vC_one vS_one vP_one mid_spl spl_size spl_spl mid_vE vE_ext4 vE_ext7 vE_ext8 vE_0 vE_1 vE_2 vE_3 vE_4 vE_5 vE_6 vE_7
attribute [local go_sem ↓] loadE storeE loadEm storeEm loadEg storeEg loadEmg storeEmg loadL storeL loadLm storeLm loadQ storeQ loadQm storeQm loadC storeC loadCg storeCg loadS storeS loadSm loadP storeP loadPm loadPg storePg 
set_option maxRecDepth 100000

theorem bad_bind (a0 a1 : Int) (s : ByteArray) (id : Int) (w : World) (w0 : Wid a0) (w1 : Wid a1) (hr : ¬ (0 ≤ a0 ∧ 0 ≤ a1 ∧ a0 + a1 ≤ 16384)) (hbig : ¬ 3000 < a1) : Calls Try.prog 3 #[.int .i64 a0, .int .i64 a1, .string s, .int .i64 id] w fun e w' => e = .returned (.bool true) ∧ Below w.heap.size w w' := by
  have HB := Lib.hid (fun W => New_bad a0 a1 s W w0 w1 hr)
  have HR := Lib.hid (fun W => rNew_bad a0 a1 s W w0 w1 hr)
  have u1 : decide (3000 < a1) = false := decide_eq_false hbig
  clear hr hbig w0 w1
  go_enter Try.func3, Try.ntmps3
  go_wp2_with fail
  refine (awake_c _).mono ?_
  rintro e v1 ⟨rfl, hb1⟩
  go_wp2_with fail
  refine (HB.out _).mono ?_
  rintro e v2 ⟨rfl, hb2'⟩
  have hb2 := hb1.trans (hb2'.mono hb1.size)
  clear hb2' hb1
  go_wp2_with fail
  refine (HR.out _).mono ?_
  rintro e v3 ⟨rfl, hb3'⟩
  have hb3 := hb2.trans (hb3'.mono hb2.size)
  clear hb3' hb2
  go_wp2_with fail
  go_ret
  exact ⟨rfl, by go_simp⟩
theorem big_bind (a0 a1 : Int) (s : ByteArray) (id : Int) (w : World) (hbig : 3000 < a1) : Calls Try.prog 3 #[.int .i64 a0, .int .i64 a1, .string s, .int .i64 id] w fun e w' => e = .returned (.bool true) ∧ Below w.heap.size w w' := by
  have u1 : decide (3000 < a1) = true := decide_eq_true hbig
  clear hbig
  go_enter Try.func3, Try.ntmps3
  go_wp2_with fail
  refine (awake_c _).mono ?_
  rintro e v1 ⟨rfl, hb1⟩
  go_wp2_with fail
  go_ret
  exact ⟨rfl, by go_simp⟩
def okE (first : Int) (n : Nat) (id : Int) : Int := if hasB first n id then 0 else 90
def atE (first : Int) (n : Nat) (id : Int) : Int := if hasB first n id then id - first else -1
set_option maxHeartbeats 4000000 in
theorem good_bind (a0 : Int) (n : Nat) (s : ByteArray) (id : Int) (w : World) (h0 : 0 ≤ a0) (h1 : a0 + n ≤ 16384) (hs : n ≤ 3000) (w3 : Wid id) (hz : Bool) (hhz : hasB a0 n id = hz) : Calls Try.prog 3 #[.int .i64 a0, .int .i64 (n : Int), .string s, .int .i64 id] w fun e w' => e = .returned (.bool true) ∧ Below w.heap.size w w' := by
  have HB := Lib.hid (fun W => New_c a0 n s W h0 h1)
  have HR := Lib.hid (fun W => rNew_c a0 n s W h0 h1)
  have u1 : decide (3000 < (n : Int)) = false := decide_eq_false (by omega)
  have u1n : decide (3000 < n) = false := decide_eq_false (by omega)
  go_enter Try.func3, Try.ntmps3
  go_wp2_with fail
  refine (awake_c _).mono ?_
  rintro e v1 ⟨rfl, hb1⟩
  go_wp2_with fail
  refine (HB.out _).mono ?_
  rintro e v2 ⟨g', el', rfl, hg2, he2, hne2, r1, r2, hb2'⟩
  obtain ⟨b, rfl, hB2⟩ : ∃ b : BSh, b.g = g' ∧ BAt b a0 (List.replicate n (newE s)) v2 := ⟨⟨g', el', n, []⟩, rfl, ⟨by rw [List.length_replicate]; exact r1, r2, hne2⟩⟩
  have hb2 := hb1.trans (hb2'.mono hb1.size)
  clear r1 r2 hb2' hb1
  have HB2 := Lib.hid hB2
  clear hB2
  go_wp2_with fail
  refine (HR.out _).mono ?_
  rintro e v3 ⟨r, rfl, -, -, hR3, hb3'⟩
  have hB3 := HB2.out.below hb3'
  have hb3 := hb2.trans (hb3'.mono hb2.size)
  have h1' : a0 + ((List.replicate n (newE s)).length : Int) ≤ 16384 := by rw [List.length_replicate]; exact h1
  have hlen : (List.replicate n (newE s)).length = n := List.length_replicate
  have hlr := hR3.row
  rw [hlen] at hlr
  have HA := Lib.hid (fun (W : World) (hb : Below v3.heap.size v3 W) => alike_c b r a0 _ W (hB3.below hb) (hR3.below hb) h0 h1')
  have HG := Lib.hid (fun (W : World) (hb : Below v3.heap.size v3 W) => Get_c b a0 id _ W (hB3.below hb) h0 w3)
  have HH := Lib.hid (fun (W : World) (hb : Below v3.heap.size v3 W) => Has_b b a0 id _ W (hB3.below hb) h0 w3)
  have HT := Lib.hid (fun (W : World) (hb : Below v3.heap.size v3 W) => at_c r.g r.c r.c' n r.A r.A' a0 id W (hlr.below hb hlr.lt) h0 h1)
  rw [hlen, hhz] at HH
  rw [hhz] at HT
  have hge : (getE a0 (List.replicate n (newE s)) id).2 = if hz then 0 else 90 := by unfold getE; rw [hlen, hhz]; cases hz <;> rfl
  rw [hge] at HG
  generalize (getE a0 (List.replicate n (newE s)) id).1 = x at HG
  generalize hat : (if hz = true then id - a0 else -1) = at_ at HT
  generalize hok : (if hz = true then (0 : Int) else 90) = ok_ at HG
  have q1 : (ok_ == 0) = hz := by cases hz <;> simp at hok <;> subst hok <;> rfl
  have q2 : decide (0 ≤ at_) = hz := by
    cases hz
    · simp at hat; subst hat; rfl
    · simp at hat; subst hat; have := hasB_yes hhz; obtain ⟨k, -, e⟩ := this; exact decide_eq_true (by omega)
  have l3 := hb3.size
  have HB3 := Lib.hid hb3
  clear hb3' hb2 hB3 hR3 hlr hge hat hok hhz HB2 hb3 HB HR
  go_wp2_with fail
  refine (HG.out _ (Below.refl _ _)).mono ?_
  rintro e v4 ⟨rfl, c4⟩
  have l4 := c4.size
  go_wp2_with fail
  refine calls_named (fun W_ => Below v3.heap.size v3 W_) (below_setRow (c4.alloc l4 _) l4 _) ?_
  intro V5 c5
  clear c4
  refine (HA.out V5 c5).mono ?_
  rintro e v6 ⟨rfl, c6'⟩
  have c6 := c5.trans (c6'.mono c5.size)
  clear c6' c5
  go_wp2_with fail
  refine (HH.out _ c6).mono ?_
  rintro e v7 ⟨rfl, c7'⟩
  have c7 := c6.trans (c7'.mono c6.size)
  clear c7' c6
  go_wp2_with fail
  refine (HT.out _ c7).mono ?_
  rintro e v8 ⟨rfl, c8'⟩
  have c8 := c7.trans (c8'.mono c7.size)
  clear c8' c7
  go_wp2_with fail
  refine (HT.out _ c8).mono ?_
  rintro e v9 ⟨rfl, c9'⟩
  have c9 := HB3.out.trans ((c8.trans (c9'.mono c8.size)).mono l3)
  clear c9' c8
  go_wp2_with fail
  go_ret
  exact ⟨rfl, c9⟩

theorem news_law (a0 a1 : Int) (s : ByteArray) (id : Int) (w : World) (w0 : Wid a0) (w1 : Wid a1) (w3 : Wid id) : Calls Try.prog 3 #[.int .i64 a0, .int .i64 a1, .string s, .int .i64 id] w fun e w' => e = .returned (.bool true) ∧ Below w.heap.size w w' := by
  by_cases hbig : 3000 < a1
  · exact big_bind a0 a1 s id w hbig
  · by_cases hr : 0 ≤ a0 ∧ 0 ≤ a1 ∧ a0 + a1 ≤ 16384
    · obtain ⟨n, rfl⟩ := Int.eq_ofNat_of_zero_le hr.2.1
      exact good_bind a0 n s id w hr.1 hr.2.2 (by omega) w3 _ rfl
    · exact bad_bind a0 a1 s id w w0 w1 hr hbig
end Go.Proofs.Ytbglgblngfbhbaa.Bk
