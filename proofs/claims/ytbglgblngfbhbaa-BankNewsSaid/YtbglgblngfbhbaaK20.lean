/- The law BankKeeps. -/
import Derived.Test.YtbglgblngfbhbaaMB
namespace Go.Proofs.Ytbglgblngfbhbaa.Bk
open Go.RowKit Go.Shelf Go.Proofs.Ytbglgblngfbhbaa.IAll Go.Proofs.YtbglgblngfbhbaaW.PrintWords Go.Proofs.YtbglgblngfbhbaaW.PrintLast Go.Proofs.YtbglgblngfbhbaaW.PrintMore
set_option linter.unusedVariables false
set_option linter.unusedSectionVars false
set_option linter.unusedSimpArgs false
attribute [local go_sem] Oper.semAt_some cell_row frozen_row isRow_setCell_eq rowAt_setCell_same rowAt_setCell_other isRow_alloc_eq rowAt_alloc rowAt_new rowAt_new' isRow_setRow_eq rowAt_setRow_same rowAt_setRow_other isRow_drew rowAt_drew size_setRow_ size_drew_ blk_ptr aggOf_agg offv_ptr below_alloc_e below_setCell_e below_setRow_e below_refl_e below_drew_r isRow_drewN rowAt_drewN below_drewN_e le_add_r asideP_alloc_e asideP_setCell_e asideP_setRow_e asideP_drew_e asideP_drewN_e asideP_refl_e allOne_nil allOne_cons Value.oneCell' addr_at mid_FT vE_size vL_size vQ_size vC_size vS_size vP_size vE_one vL_one vQ_one vC_one vS_one vP_one mid_spl spl_size spl_spl mid_vS vS_extl vS_0 vS_1 vS_2 vS_3 vS_4 vS_5 vS_6 vS_7 vS_8 vS_9 vS_10
attribute [local go_sem ↓] loadE storeE loadEm storeEm loadEg storeEg loadEmg storeEmg loadL storeL loadLm storeLm loadQ storeQ loadQm storeQm loadC storeC loadCg storeCg loadS storeS loadSm loadP storeP loadPm loadPg storePg 
set_option maxRecDepth 100000
attribute [local go_sem high] eqE eqC

def getE (first : Int) (d : List E) (id : Int) : E × Int := if hasB first d.length id then (d.getD (kOf first id) zE, 0) else (zE, 90)
theorem Get_c (b : BSh) (first id : Int) (d : List E) (w : World) (h : BAt b first d w) (h0 : 0 ≤ first) (hi : Wid id) :
    Calls Try.prog 12 #[.pointer (some ⟨b.g, 0, none⟩), .int .i64 id] w fun e w' => e = .returned (.tuple #[.agg (vE (getE first d id).1), .int .i64 (getE first d id).2]) ∧ Below w.heap.size w w' := by
  unfold getE
  cases hh : hasB first d.length id with
  | false => exact Get_miss b.g b.e b.c d.length first id w h.row hh h0 hi
  | true =>
    obtain ⟨k, hk, rfl⟩ := hasB_yes hh
    rw [if_pos rfl, show kOf first (first + k) = k by unfold kOf; omega, List.getD_eq_getElem?_getD, List.getElem?_eq_getElem hk]
    exact Get_hit b.g b.e b.c d.length first d b.T k d[k] w rfl h.row h.ents (List.getElem?_eq_getElem hk) h0 hi
theorem Has_b (b : BSh) (first id : Int) (d : List E) (w : World) (h : BAt b first d w) (h0 : 0 ≤ first) (hi : Wid id) :
    Calls Try.prog 14 #[.pointer (some ⟨b.g, 0, none⟩), .int .i64 id] w fun e w' => e = .returned (.bool (hasB first d.length id)) ∧ Below w.heap.size w w' := Has_c b.g b.e b.c d.length first id w h.row h0 hi
/-- what befalls, in the law -/
def keepR (first : Int) (d : List E) (x : S) : Int := if x.f0 = 2 then doR first d x.f1 else putR first d x.f1 x.e
def keepL (first : Int) (d : List E) (x : S) : List E := if x.f0 = 2 then doL first d x.f1 x.f10 else putL first d x.f1 x.e
theorem keepL_len (first : Int) (d : List E) (x : S) : (keepL first d x).length = d.length := by
  unfold keepL
  split
  · exact doL_len _ _ _ _
  · exact putL_len _ _ _ _
theorem keep_has {first : Int} {d : List E} {x : S} (h : keepR first d x = 0) : hasB first d.length x.f1 = true := by
  unfold keepR doR putR at h
  split at h
  · split at h
    · assumption
    · cases h
  · split at h
    · assumption
    · cases h
theorem keep_no {first : Int} {d : List E} {x : S} (h : ¬ keepR first d x = 0) : keepL first d x = d := by
  unfold keepR doR putR at h
  unfold keepL doL putL
  split
  · rename_i h2
    rw [if_pos h2] at h
    split
    · rename_i h3; rw [if_pos h3] at h; exact absurd rfl h
    · rfl
  · rename_i h2
    rw [if_neg h2] at h
    split
    · rename_i h3; rw [if_pos h3.1, if_pos h3.2] at h; exact absurd rfl h
    · rfl
theorem keep_snd (first : Int) (d : List E) (x : S) (id : Int) : (getE first (keepL first d x) id).2 = (getE first d id).2 := by
  unfold getE
  rw [keepL_len]
  split <;> rfl
theorem set_getD {d : List E} {k j : Nat} (x : E) (h : ¬ k = j) : (d.set k x).getD j zE = d.getD j zE := by
  simp [List.getD_eq_getElem?_getD, List.getElem?_set, h]
theorem mod_getD {d : List E} {k j : Nat} (f : E → E) (h : ¬ k = j) : (d.modify k f).getD j zE = d.getD j zE := by
  simp [List.getD_eq_getElem?_getD, List.getElem?_modify, h]
theorem keep_other {first : Int} {d : List E} {x : S} {id : Int} (h : ¬ id = x.f1) : (getE first (keepL first d x) id).1 = (getE first d id).1 := by
  unfold getE
  rw [keepL_len]
  by_cases hh : hasB first d.length id = true
  · obtain ⟨k, hk, rfl⟩ := hasB_yes hh
    rw [if_pos hh, if_pos hh]
    show (keepL first d x).getD _ zE = d.getD _ zE
    rw [show kOf first (first + k) = k by unfold kOf; omega]
    unfold keepL doL putL
    have hne : hasB first d.length x.f1 = true → ¬ kOf first x.f1 = k := fun h2 e => by
      obtain ⟨j, hj, e2⟩ := hasB_yes h2
      rw [e2] at e
      have : j = k := by rw [← e]; unfold kOf; omega
      exact h (by rw [e2, this])
    split
    · split
      · rename_i h3; exact mod_getD _ (hne h3)
      · rfl
    · split
      · rename_i h3; exact set_getD _ (hne h3.1)
      · rfl
  · rw [if_neg hh, if_neg hh]
theorem AsideP.one {g : Nat} {w w' : World} (h : AsideP (fun k => k = g) w w') : Aside g w w' := ⟨h.os, h.tape, h.output, h.size, fun k hk hn => h.block k hk hn⟩
theorem put_r (b : BSh) (first id : Int) (d : List E) (x : E) (w : World) (h : BAt b first d w) (h0 : 0 ≤ first) (hi : Wid id) :
    Calls Try.prog 18 #[.pointer (some ⟨b.g, 0, none⟩), .int .i64 id, .agg (vE x)] w fun e w' => e = .returned (.int .i64 (putR first d id x)) ∧ Row w' b.e (FT eE (putL first d id x) b.T) ∧ Aside b.e w w' := (Put_c b first id d x w h h0 hi).mono fun _ _ q => ⟨q.1, q.2.1.ents, AsideP.one q.2.2⟩
theorem do_r (b : BSh) (first id a : Int) (d : List E) (w : World) (h : BAt b first d w) (h0 : 0 ≤ first) (hi : Wid id) :
    Calls Try.prog 17 #[.pointer (some ⟨b.g, 0, none⟩), .int .i64 id, .int .i64 a] w fun e w' => e = .returned (.int .i64 (doR first d id)) ∧ Row w' b.e (FT eE (doL first d id a) b.T) ∧ Aside b.e w w' := (Do_c b first id a d w h h0 hi).mono fun _ _ q => ⟨q.1, q.2.1.ents, AsideP.one q.2.2⟩
set_option maxHeartbeats 4000000 in
theorem keeps2 (first m : Int) (A : Option Addr) (c : Nat) (xs : List S) (x : S) (id : Int) (w : World) (h0 : 0 ≤ first) (h1 : first ≤ 255) (h2 : 0 ≤ m) (h3 : m ≤ 255) (hC : Kd.C kS w A xs.length xs) (hbig : xs.length ≤ 9223372036854775807) (hW : ∀ x ∈ xs, Wid x.f1) (hx : Wid x.f1) (hid : Wid id) (hq : x.f0 = 2) :
    Calls Try.prog 4 #[.int .u8 first, .int .u8 m, .slice A xs.length c, .agg (vS x), .int .i64 id] w fun e w' => e = .returned (.bool true) ∧ Below w.heap.size w w' := by
  go_enter Try.func4, Try.ntmps4
  have hB_0 : Below w.heap.size w w := Below.refl _ _
  go_wp2_with fail
  refine (awake_c _).mono ?_
  rintro e v1 ⟨rfl, hb1⟩
  obtain ⟨X_1, X_1'⟩ : Row v1 w.heap.size (vS x) := Row.step (by go_simp) (by go_simp) hb1
  have hB_1 : Below w.heap.size w v1 := bk (by go_simp) (by first | (go_simp; done) | (go_simp; omega) | exact Below.size (by assumption)) hb1
  clear hB_0 hb1
  have hz_1 : w.heap.size ≤ v1.heap.size := hB_1.size
  have hl_X_1 := isRow.lt X_1
  have ne_X_1_0 : ¬ w.heap.size = v1.heap.size := by omega
  have en_X_1_0 : ¬ v1.heap.size = w.heap.size := by omega
  have HPl := Lib.hid (fun (W : World) (hb : Below w.heap.size w W) => played_c first m A c xs W h0 h1 h2 h3 (Kd.C_below hC hb) hbig hW)
  have hn := nOf_lt m
  clear hC
  go_wp2_with fail
  refine (HPl.out _ hB_1).mono ?_
  rintro e v2 ⟨b, rfl, hBt, p1, p2, hb2⟩
  obtain ⟨X_2, X_2'⟩ : Row v2 w.heap.size (vS x) := Row.step (by go_simp) (by go_simp) hb2
  have hB_2 : Below w.heap.size w v2 := bk (by go_simp) (by first | (go_simp; done) | (go_simp; omega) | exact Below.size (by assumption)) hb2
  clear X_1 X_1' hB_1 hb2
  have hz_2 : w.heap.size ≤ v2.heap.size := hB_2.size
  have hl_X_2 := isRow.lt X_2
  have ne_X_2_0 : ¬ w.heap.size = v2.heap.size := by omega
  have en_X_2_0 : ¬ v2.heap.size = w.heap.size := by omega
  obtain ⟨⟨BG, BG'⟩, ⟨BE, BE'⟩, hne⟩ := hBt
  have hgd := good_runA first xs (good_d0 m)
  have hlen : (runA first (d0 m) xs).length = nOf m := by rw [runA_len, d0_len]
  have hle : (runA first (d0 m) xs).length ≤ 63 := by omega
  generalize runA first (d0 m) xs = d at *
  have hne' : ¬ b.e = b.g := fun e => hne e.symm
  have lbg := BG.lt
  have lbe := BE.lt
  clear HPl hlen hn
  have HG := Lib.hid (fun (W : World) (h : BAt b first d W) => Get_c b first id d W h h0 hid)
  have HK := Lib.hid (fun (W : World) (h : BAt b first d W) => show Calls Try.prog 17 #[.pointer (some ⟨b.g, 0, none⟩), .int .i64 x.f1, .int .i64 x.f10] W fun e w' => e = .returned (.int .i64 (keepR first d x)) ∧ Row w' b.e (FT eE (keepL first d x) b.T) ∧ Aside b.e W w' from by
    unfold keepR keepL
    rw [if_pos hq, if_pos hq]
    exact do_r b first x.f1 x.f10 d W h h0 hx)
  have HG2 := Lib.hid (fun (W : World) (h : BAt b first (keepL first d x) W) => Get_c b first id _ W h h0 hid)
  have HH := Lib.hid (fun (W : World) (h : BAt b first (keepL first d x) W) => Has_b b first x.f1 _ W h h0 hx)
  rw [keepL_len] at HH
  have hklen : (keepL first d x).length = d.length := keepL_len first d x
  have hk1 : (getE first (keepL first d x) id).2 = (getE first d id).2 := keep_snd first d x id
  have hk2 := keep_has (first := first) (d := d) (x := x)
  have hk3 := keep_no (first := first) (d := d) (x := x)
  have hk4 := keep_other (first := first) (d := d) (x := x) (id := id)
  have q2 : (x.f0 == 2) = true := by simpa using hq
  have HK2 := Lib.hid hk2
  have HK3 := Lib.hid hk3
  have HK4 := Lib.hid hk4
  clear hk2 hk3 hk4 hq hgd
  generalize keepL first d x = d' at *
  generalize hf : keepR first d x = f at *
  clear hf
  obtain ⟨y, gy⟩ : ∃ y, (getE first d id).1 = y := ⟨_, rfl⟩
  obtain ⟨y', gy'⟩ : ∃ y', (getE first d' id).1 = y' := ⟨_, rfl⟩
  obtain ⟨z, gz⟩ : ∃ z, (getE first d id).2 = z := ⟨_, rfl⟩
  rw [gy, gz] at HG
  rw [gy', hk1, gz] at HG2
  have HY := Lib.hid (And.intro gy gy')
  clear gy gy' gz hk1
  go_wp2_with fail
  refine (HG.out _ ⟨⟨by go_simp, by go_simp⟩, ⟨by go_simp, by go_simp⟩, hne⟩).mono ?_
  rintro e v3 ⟨rfl, hb3⟩
  obtain ⟨X_3, X_3'⟩ : Row v3 w.heap.size (vS x) := Row.step (by go_simp) (by go_simp) hb3
  obtain ⟨G_3, G_3'⟩ : Row v3 b.g #[.int .i64 first, .slice (some ⟨b.e, 0, none⟩) d.length b.c] := Row.step (by go_simp) (by go_simp) hb3
  obtain ⟨En_3, En_3'⟩ : Row v3 b.e (FT eE d b.T) := Row.step (by go_simp) (by go_simp) hb3
  have hB_3 : Below w.heap.size w v3 := bk (by go_simp) (by first | (go_simp; done) | (go_simp; omega) | exact Below.size (by assumption)) hb3
  clear X_2 X_2' BG BG' BE BE' hB_2 hb3
  have hz_3 : w.heap.size ≤ v3.heap.size := hB_3.size
  have hl_X_3 := isRow.lt X_3
  have ne_X_3_0 : ¬ w.heap.size = v3.heap.size := by omega
  have en_X_3_0 : ¬ v3.heap.size = w.heap.size := by omega
  have hl_G_3 := isRow.lt G_3
  have ne_G_3_0 : ¬ b.g = v3.heap.size := by omega
  have en_G_3_0 : ¬ v3.heap.size = b.g := by omega
  have hl_En_3 := isRow.lt En_3
  have ne_En_3_0 : ¬ b.e = v3.heap.size := by omega
  have en_En_3_0 : ¬ v3.heap.size = b.e := by omega
  have ne_X_Y : ¬ w.heap.size = v3.heap.size := by omega
  have en_X_Y : ¬ v3.heap.size = w.heap.size := by omega
  have ne_G_Y : ¬ b.g = v3.heap.size := by omega
  have en_G_Y : ¬ v3.heap.size = b.g := by omega
  have ne_En_Y : ¬ b.e = v3.heap.size := by omega
  have en_En_Y : ¬ v3.heap.size = b.e := by omega
  go_wp2_with fail
  refine (HK.out _ ⟨⟨by go_simp, by go_simp⟩, ⟨by go_simp, by go_simp⟩, hne⟩).mono ?_
  rintro e v4 ⟨rfl, ⟨En_4, En_4'⟩, hA4⟩
  obtain ⟨X_4, X_4'⟩ : Row v4 w.heap.size (vS x) := hA4.row ⟨by go_simp, by go_simp⟩ (by omega)
  obtain ⟨G_4, G_4'⟩ : Row v4 b.g #[.int .i64 first, .slice (some ⟨b.e, 0, none⟩) d.length b.c] := hA4.row ⟨by go_simp, by go_simp⟩ (by omega)
  obtain ⟨Y_4, Y_4'⟩ : Row v4 v3.heap.size (vE y) := hA4.row ⟨by go_simp, by go_simp⟩ (by omega)
  have hB_4 : Below w.heap.size w v4 := hA4.below (by go_simp) (by first | omega | (go_simp; done) | (go_simp; omega)) (by first | (go_simp; done) | (go_simp; omega) | exact Below.size (by assumption))
  clear X_3 X_3' G_3 G_3' En_3 En_3' hB_3 hA4
  have hz_4 : w.heap.size ≤ v4.heap.size := hB_4.size
  have hl_X_4 := isRow.lt X_4
  have ne_X_4_0 : ¬ w.heap.size = v4.heap.size := by omega
  have en_X_4_0 : ¬ v4.heap.size = w.heap.size := by omega
  have hl_G_4 := isRow.lt G_4
  have ne_G_4_0 : ¬ b.g = v4.heap.size := by omega
  have en_G_4_0 : ¬ v4.heap.size = b.g := by omega
  have hl_En_4 := isRow.lt En_4
  have ne_En_4_0 : ¬ b.e = v4.heap.size := by omega
  have en_En_4_0 : ¬ v4.heap.size = b.e := by omega
  have hl_Y_4 := isRow.lt Y_4
  have ne_Y_4_0 : ¬ v3.heap.size = v4.heap.size := by omega
  have en_Y_4_0 : ¬ v4.heap.size = v3.heap.size := by omega
  go_wp2_with fail
  refine (HG2.out _ ⟨⟨by go_simp, by go_simp⟩, ⟨by go_simp, by go_simp⟩, hne⟩).mono ?_
  rintro e v5 ⟨rfl, hb5⟩
  obtain ⟨X_5, X_5'⟩ : Row v5 w.heap.size (vS x) := Row.step (by go_simp) (by go_simp) hb5
  obtain ⟨G_5, G_5'⟩ : Row v5 b.g #[.int .i64 first, .slice (some ⟨b.e, 0, none⟩) d.length b.c] := Row.step (by go_simp) (by go_simp) hb5
  obtain ⟨En_5, En_5'⟩ : Row v5 b.e (FT eE d' b.T) := Row.step (by go_simp) (by go_simp) hb5
  obtain ⟨Y_5, Y_5'⟩ : Row v5 v3.heap.size (vE y) := Row.step (by go_simp) (by go_simp) hb5
  have hB_5 : Below w.heap.size w v5 := bk (by go_simp) (by first | (go_simp; done) | (go_simp; omega) | exact Below.size (by assumption)) hb5
  clear X_4 X_4' G_4 G_4' En_4 En_4' Y_4 Y_4' hB_4 hb5
  have hz_5 : w.heap.size ≤ v5.heap.size := hB_5.size
  have hl_X_5 := isRow.lt X_5
  have ne_X_5_0 : ¬ w.heap.size = v5.heap.size := by omega
  have en_X_5_0 : ¬ v5.heap.size = w.heap.size := by omega
  have hl_G_5 := isRow.lt G_5
  have ne_G_5_0 : ¬ b.g = v5.heap.size := by omega
  have en_G_5_0 : ¬ v5.heap.size = b.g := by omega
  have hl_En_5 := isRow.lt En_5
  have ne_En_5_0 : ¬ b.e = v5.heap.size := by omega
  have en_En_5_0 : ¬ v5.heap.size = b.e := by omega
  have hl_Y_5 := isRow.lt Y_5
  have ne_Y_5_0 : ¬ v3.heap.size = v5.heap.size := by omega
  have en_Y_5_0 : ¬ v5.heap.size = v3.heap.size := by omega
  have ne_X_Z : ¬ w.heap.size = v5.heap.size := by omega
  have en_X_Z : ¬ v5.heap.size = w.heap.size := by omega
  have ne_G_Z : ¬ b.g = v5.heap.size := by omega
  have en_G_Z : ¬ v5.heap.size = b.g := by omega
  have ne_En_Z : ¬ b.e = v5.heap.size := by omega
  have en_En_Z : ¬ v5.heap.size = b.e := by omega
  have ne_Y_Z : ¬ v3.heap.size = v5.heap.size := by omega
  have en_Y_Z : ¬ v5.heap.size = v3.heap.size := by omega
  by_cases hf : f = 0
  · have uF : (f == 0) = true := by simpa using hf
    have HHH := Lib.hid (HK2.out hf)
    rw [HHH.out] at HH
    have HF := Lib.hid hf
    clear hf
    go_wp2_with fail
    refine (HH.out _ ⟨⟨by go_simp, by go_simp⟩, ⟨by go_simp, by go_simp⟩, hne⟩).mono ?_
    rintro e v6 ⟨rfl, hb6⟩
    obtain ⟨X_6, X_6'⟩ : Row v6 w.heap.size (vS x) := Row.step (by go_simp) (by go_simp) hb6
    obtain ⟨G_6, G_6'⟩ : Row v6 b.g #[.int .i64 first, .slice (some ⟨b.e, 0, none⟩) d.length b.c] := Row.step (by go_simp) (by go_simp) hb6
    obtain ⟨En_6, En_6'⟩ : Row v6 b.e (FT eE d' b.T) := Row.step (by go_simp) (by go_simp) hb6
    obtain ⟨Y_6, Y_6'⟩ : Row v6 v3.heap.size (vE y) := Row.step (by go_simp) (by go_simp) hb6
    obtain ⟨Z_6, Z_6'⟩ : Row v6 v5.heap.size (vE y') := Row.step (by go_simp) (by go_simp) hb6
    have hB_6 : Below w.heap.size w v6 := bk (by go_simp) (by first | (go_simp; done) | (go_simp; omega) | exact Below.size (by assumption)) hb6
    clear X_5 X_5' G_5 G_5' En_5 En_5' Y_5 Y_5' hB_5 hb6
    have hz_6 : w.heap.size ≤ v6.heap.size := hB_6.size
    have hl_X_6 := isRow.lt X_6
    have ne_X_6_0 : ¬ w.heap.size = v6.heap.size := by omega
    have en_X_6_0 : ¬ v6.heap.size = w.heap.size := by omega
    have hl_G_6 := isRow.lt G_6
    have ne_G_6_0 : ¬ b.g = v6.heap.size := by omega
    have en_G_6_0 : ¬ v6.heap.size = b.g := by omega
    have hl_En_6 := isRow.lt En_6
    have ne_En_6_0 : ¬ b.e = v6.heap.size := by omega
    have en_En_6_0 : ¬ v6.heap.size = b.e := by omega
    have hl_Y_6 := isRow.lt Y_6
    have ne_Y_6_0 : ¬ v3.heap.size = v6.heap.size := by omega
    have en_Y_6_0 : ¬ v6.heap.size = v3.heap.size := by omega
    have hl_Z_6 := isRow.lt Z_6
    have ne_Z_6_0 : ¬ v5.heap.size = v6.heap.size := by omega
    have en_Z_6_0 : ¬ v6.heap.size = v5.heap.size := by omega
    by_cases hi : id = x.f1
    · have uI : (id == x.f1) = true := by simpa using hi
      clear hi
      go_wp2
      go_ret
      exact ⟨rfl, by go_simp⟩
    · have uI : (id == x.f1) = false := by simpa using hi
      obtain rfl : y' = y := by rw [← HY.out.1, ← HY.out.2]; exact HK4.out hi
      clear hi
      go_wp2
      go_ret
      exact ⟨rfl, by go_simp⟩
  · have uF : (f == 0) = false := by simpa using hf
    obtain rfl : y' = y := by rw [← HY.out.1, ← HY.out.2, HK3.out hf]
    clear hf
    by_cases hi : id = x.f1
    · have uI : (id == x.f1) = true := by simpa using hi
      clear hi
      go_wp2
      go_ret
      exact ⟨rfl, by go_simp⟩
    · have uI : (id == x.f1) = false := by simpa using hi
      clear hi
      go_wp2
      go_ret
      exact ⟨rfl, by go_simp⟩
set_option maxHeartbeats 4000000 in
theorem keeps1 (first m : Int) (A : Option Addr) (c : Nat) (xs : List S) (x : S) (id : Int) (w : World) (h0 : 0 ≤ first) (h1 : first ≤ 255) (h2 : 0 ≤ m) (h3 : m ≤ 255) (hC : Kd.C kS w A xs.length xs) (hbig : xs.length ≤ 9223372036854775807) (hW : ∀ x ∈ xs, Wid x.f1) (hx : Wid x.f1) (hid : Wid id) (hq : ¬ x.f0 = 2) :
    Calls Try.prog 4 #[.int .u8 first, .int .u8 m, .slice A xs.length c, .agg (vS x), .int .i64 id] w fun e w' => e = .returned (.bool true) ∧ Below w.heap.size w w' := by
  go_enter Try.func4, Try.ntmps4
  have hB_0 : Below w.heap.size w w := Below.refl _ _
  go_wp2_with fail
  refine (awake_c _).mono ?_
  rintro e v1 ⟨rfl, hb1⟩
  obtain ⟨X_1, X_1'⟩ : Row v1 w.heap.size (vS x) := Row.step (by go_simp) (by go_simp) hb1
  have hB_1 : Below w.heap.size w v1 := bk (by go_simp) (by first | (go_simp; done) | (go_simp; omega) | exact Below.size (by assumption)) hb1
  clear hB_0 hb1
  have hz_1 : w.heap.size ≤ v1.heap.size := hB_1.size
  have hl_X_1 := isRow.lt X_1
  have ne_X_1_0 : ¬ w.heap.size = v1.heap.size := by omega
  have en_X_1_0 : ¬ v1.heap.size = w.heap.size := by omega
  have HPl := Lib.hid (fun (W : World) (hb : Below w.heap.size w W) => played_c first m A c xs W h0 h1 h2 h3 (Kd.C_below hC hb) hbig hW)
  have hn := nOf_lt m
  clear hC
  go_wp2_with fail
  refine (HPl.out _ hB_1).mono ?_
  rintro e v2 ⟨b, rfl, hBt, p1, p2, hb2⟩
  obtain ⟨X_2, X_2'⟩ : Row v2 w.heap.size (vS x) := Row.step (by go_simp) (by go_simp) hb2
  have hB_2 : Below w.heap.size w v2 := bk (by go_simp) (by first | (go_simp; done) | (go_simp; omega) | exact Below.size (by assumption)) hb2
  clear X_1 X_1' hB_1 hb2
  have hz_2 : w.heap.size ≤ v2.heap.size := hB_2.size
  have hl_X_2 := isRow.lt X_2
  have ne_X_2_0 : ¬ w.heap.size = v2.heap.size := by omega
  have en_X_2_0 : ¬ v2.heap.size = w.heap.size := by omega
  obtain ⟨⟨BG, BG'⟩, ⟨BE, BE'⟩, hne⟩ := hBt
  have hgd := good_runA first xs (good_d0 m)
  have hlen : (runA first (d0 m) xs).length = nOf m := by rw [runA_len, d0_len]
  have hle : (runA first (d0 m) xs).length ≤ 63 := by omega
  generalize runA first (d0 m) xs = d at *
  have hne' : ¬ b.e = b.g := fun e => hne e.symm
  have lbg := BG.lt
  have lbe := BE.lt
  clear HPl hlen hn
  have HG := Lib.hid (fun (W : World) (h : BAt b first d W) => Get_c b first id d W h h0 hid)
  have HK := Lib.hid (fun (W : World) (h : BAt b first d W) => show Calls Try.prog 18 #[.pointer (some ⟨b.g, 0, none⟩), .int .i64 x.f1, .agg (vE x.e)] W fun e w' => e = .returned (.int .i64 (keepR first d x)) ∧ Row w' b.e (FT eE (keepL first d x) b.T) ∧ Aside b.e W w' from by
    unfold keepR keepL
    rw [if_neg hq, if_neg hq]
    exact put_r b first x.f1 d x.e W h h0 hx)
  have HG2 := Lib.hid (fun (W : World) (h : BAt b first (keepL first d x) W) => Get_c b first id _ W h h0 hid)
  have HH := Lib.hid (fun (W : World) (h : BAt b first (keepL first d x) W) => Has_b b first x.f1 _ W h h0 hx)
  rw [keepL_len] at HH
  have hklen : (keepL first d x).length = d.length := keepL_len first d x
  have hk1 : (getE first (keepL first d x) id).2 = (getE first d id).2 := keep_snd first d x id
  have hk2 := keep_has (first := first) (d := d) (x := x)
  have hk3 := keep_no (first := first) (d := d) (x := x)
  have hk4 := keep_other (first := first) (d := d) (x := x) (id := id)
  have q2 : (x.f0 == 2) = false := by simpa using hq
  have HK2 := Lib.hid hk2
  have HK3 := Lib.hid hk3
  have HK4 := Lib.hid hk4
  clear hk2 hk3 hk4 hq hgd
  generalize keepL first d x = d' at *
  generalize hf : keepR first d x = f at *
  clear hf
  obtain ⟨y, gy⟩ : ∃ y, (getE first d id).1 = y := ⟨_, rfl⟩
  obtain ⟨y', gy'⟩ : ∃ y', (getE first d' id).1 = y' := ⟨_, rfl⟩
  obtain ⟨z, gz⟩ : ∃ z, (getE first d id).2 = z := ⟨_, rfl⟩
  rw [gy, gz] at HG
  rw [gy', hk1, gz] at HG2
  have HY := Lib.hid (And.intro gy gy')
  clear gy gy' gz hk1
  go_wp2_with fail
  refine (HG.out _ ⟨⟨by go_simp, by go_simp⟩, ⟨by go_simp, by go_simp⟩, hne⟩).mono ?_
  rintro e v3 ⟨rfl, hb3⟩
  obtain ⟨X_3, X_3'⟩ : Row v3 w.heap.size (vS x) := Row.step (by go_simp) (by go_simp) hb3
  obtain ⟨G_3, G_3'⟩ : Row v3 b.g #[.int .i64 first, .slice (some ⟨b.e, 0, none⟩) d.length b.c] := Row.step (by go_simp) (by go_simp) hb3
  obtain ⟨En_3, En_3'⟩ : Row v3 b.e (FT eE d b.T) := Row.step (by go_simp) (by go_simp) hb3
  have hB_3 : Below w.heap.size w v3 := bk (by go_simp) (by first | (go_simp; done) | (go_simp; omega) | exact Below.size (by assumption)) hb3
  clear X_2 X_2' BG BG' BE BE' hB_2 hb3
  have hz_3 : w.heap.size ≤ v3.heap.size := hB_3.size
  have hl_X_3 := isRow.lt X_3
  have ne_X_3_0 : ¬ w.heap.size = v3.heap.size := by omega
  have en_X_3_0 : ¬ v3.heap.size = w.heap.size := by omega
  have hl_G_3 := isRow.lt G_3
  have ne_G_3_0 : ¬ b.g = v3.heap.size := by omega
  have en_G_3_0 : ¬ v3.heap.size = b.g := by omega
  have hl_En_3 := isRow.lt En_3
  have ne_En_3_0 : ¬ b.e = v3.heap.size := by omega
  have en_En_3_0 : ¬ v3.heap.size = b.e := by omega
  have ne_X_Y : ¬ w.heap.size = v3.heap.size := by omega
  have en_X_Y : ¬ v3.heap.size = w.heap.size := by omega
  have ne_G_Y : ¬ b.g = v3.heap.size := by omega
  have en_G_Y : ¬ v3.heap.size = b.g := by omega
  have ne_En_Y : ¬ b.e = v3.heap.size := by omega
  have en_En_Y : ¬ v3.heap.size = b.e := by omega
  go_wp2_with fail
  refine (HK.out _ ⟨⟨by go_simp, by go_simp⟩, ⟨by go_simp, by go_simp⟩, hne⟩).mono ?_
  rintro e v4 ⟨rfl, ⟨En_4, En_4'⟩, hA4⟩
  obtain ⟨X_4, X_4'⟩ : Row v4 w.heap.size (vS x) := hA4.row ⟨by go_simp, by go_simp⟩ (by omega)
  obtain ⟨G_4, G_4'⟩ : Row v4 b.g #[.int .i64 first, .slice (some ⟨b.e, 0, none⟩) d.length b.c] := hA4.row ⟨by go_simp, by go_simp⟩ (by omega)
  obtain ⟨Y_4, Y_4'⟩ : Row v4 v3.heap.size (vE y) := hA4.row ⟨by go_simp, by go_simp⟩ (by omega)
  have hB_4 : Below w.heap.size w v4 := hA4.below (by go_simp) (by first | omega | (go_simp; done) | (go_simp; omega)) (by first | (go_simp; done) | (go_simp; omega) | exact Below.size (by assumption))
  clear X_3 X_3' G_3 G_3' En_3 En_3' hB_3 hA4
  have hz_4 : w.heap.size ≤ v4.heap.size := hB_4.size
  have hl_X_4 := isRow.lt X_4
  have ne_X_4_0 : ¬ w.heap.size = v4.heap.size := by omega
  have en_X_4_0 : ¬ v4.heap.size = w.heap.size := by omega
  have hl_G_4 := isRow.lt G_4
  have ne_G_4_0 : ¬ b.g = v4.heap.size := by omega
  have en_G_4_0 : ¬ v4.heap.size = b.g := by omega
  have hl_En_4 := isRow.lt En_4
  have ne_En_4_0 : ¬ b.e = v4.heap.size := by omega
  have en_En_4_0 : ¬ v4.heap.size = b.e := by omega
  have hl_Y_4 := isRow.lt Y_4
  have ne_Y_4_0 : ¬ v3.heap.size = v4.heap.size := by omega
  have en_Y_4_0 : ¬ v4.heap.size = v3.heap.size := by omega
  go_wp2_with fail
  refine (HG2.out _ ⟨⟨by go_simp, by go_simp⟩, ⟨by go_simp, by go_simp⟩, hne⟩).mono ?_
  rintro e v5 ⟨rfl, hb5⟩
  obtain ⟨X_5, X_5'⟩ : Row v5 w.heap.size (vS x) := Row.step (by go_simp) (by go_simp) hb5
  obtain ⟨G_5, G_5'⟩ : Row v5 b.g #[.int .i64 first, .slice (some ⟨b.e, 0, none⟩) d.length b.c] := Row.step (by go_simp) (by go_simp) hb5
  obtain ⟨En_5, En_5'⟩ : Row v5 b.e (FT eE d' b.T) := Row.step (by go_simp) (by go_simp) hb5
  obtain ⟨Y_5, Y_5'⟩ : Row v5 v3.heap.size (vE y) := Row.step (by go_simp) (by go_simp) hb5
  have hB_5 : Below w.heap.size w v5 := bk (by go_simp) (by first | (go_simp; done) | (go_simp; omega) | exact Below.size (by assumption)) hb5
  clear X_4 X_4' G_4 G_4' En_4 En_4' Y_4 Y_4' hB_4 hb5
  have hz_5 : w.heap.size ≤ v5.heap.size := hB_5.size
  have hl_X_5 := isRow.lt X_5
  have ne_X_5_0 : ¬ w.heap.size = v5.heap.size := by omega
  have en_X_5_0 : ¬ v5.heap.size = w.heap.size := by omega
  have hl_G_5 := isRow.lt G_5
  have ne_G_5_0 : ¬ b.g = v5.heap.size := by omega
  have en_G_5_0 : ¬ v5.heap.size = b.g := by omega
  have hl_En_5 := isRow.lt En_5
  have ne_En_5_0 : ¬ b.e = v5.heap.size := by omega
  have en_En_5_0 : ¬ v5.heap.size = b.e := by omega
  have hl_Y_5 := isRow.lt Y_5
  have ne_Y_5_0 : ¬ v3.heap.size = v5.heap.size := by omega
  have en_Y_5_0 : ¬ v5.heap.size = v3.heap.size := by omega
  have ne_X_Z : ¬ w.heap.size = v5.heap.size := by omega
  have en_X_Z : ¬ v5.heap.size = w.heap.size := by omega
  have ne_G_Z : ¬ b.g = v5.heap.size := by omega
  have en_G_Z : ¬ v5.heap.size = b.g := by omega
  have ne_En_Z : ¬ b.e = v5.heap.size := by omega
  have en_En_Z : ¬ v5.heap.size = b.e := by omega
  have ne_Y_Z : ¬ v3.heap.size = v5.heap.size := by omega
  have en_Y_Z : ¬ v5.heap.size = v3.heap.size := by omega
  by_cases hf : f = 0
  · have uF : (f == 0) = true := by simpa using hf
    have HHH := Lib.hid (HK2.out hf)
    rw [HHH.out] at HH
    have HF := Lib.hid hf
    clear hf
    go_wp2_with fail
    refine (HH.out _ ⟨⟨by go_simp, by go_simp⟩, ⟨by go_simp, by go_simp⟩, hne⟩).mono ?_
    rintro e v6 ⟨rfl, hb6⟩
    obtain ⟨X_6, X_6'⟩ : Row v6 w.heap.size (vS x) := Row.step (by go_simp) (by go_simp) hb6
    obtain ⟨G_6, G_6'⟩ : Row v6 b.g #[.int .i64 first, .slice (some ⟨b.e, 0, none⟩) d.length b.c] := Row.step (by go_simp) (by go_simp) hb6
    obtain ⟨En_6, En_6'⟩ : Row v6 b.e (FT eE d' b.T) := Row.step (by go_simp) (by go_simp) hb6
    obtain ⟨Y_6, Y_6'⟩ : Row v6 v3.heap.size (vE y) := Row.step (by go_simp) (by go_simp) hb6
    obtain ⟨Z_6, Z_6'⟩ : Row v6 v5.heap.size (vE y') := Row.step (by go_simp) (by go_simp) hb6
    have hB_6 : Below w.heap.size w v6 := bk (by go_simp) (by first | (go_simp; done) | (go_simp; omega) | exact Below.size (by assumption)) hb6
    clear X_5 X_5' G_5 G_5' En_5 En_5' Y_5 Y_5' hB_5 hb6
    have hz_6 : w.heap.size ≤ v6.heap.size := hB_6.size
    have hl_X_6 := isRow.lt X_6
    have ne_X_6_0 : ¬ w.heap.size = v6.heap.size := by omega
    have en_X_6_0 : ¬ v6.heap.size = w.heap.size := by omega
    have hl_G_6 := isRow.lt G_6
    have ne_G_6_0 : ¬ b.g = v6.heap.size := by omega
    have en_G_6_0 : ¬ v6.heap.size = b.g := by omega
    have hl_En_6 := isRow.lt En_6
    have ne_En_6_0 : ¬ b.e = v6.heap.size := by omega
    have en_En_6_0 : ¬ v6.heap.size = b.e := by omega
    have hl_Y_6 := isRow.lt Y_6
    have ne_Y_6_0 : ¬ v3.heap.size = v6.heap.size := by omega
    have en_Y_6_0 : ¬ v6.heap.size = v3.heap.size := by omega
    have hl_Z_6 := isRow.lt Z_6
    have ne_Z_6_0 : ¬ v5.heap.size = v6.heap.size := by omega
    have en_Z_6_0 : ¬ v6.heap.size = v5.heap.size := by omega
    by_cases hi : id = x.f1
    · have uI : (id == x.f1) = true := by simpa using hi
      clear hi
      go_wp2
      go_ret
      exact ⟨rfl, by go_simp⟩
    · have uI : (id == x.f1) = false := by simpa using hi
      obtain rfl : y' = y := by rw [← HY.out.1, ← HY.out.2]; exact HK4.out hi
      clear hi
      go_wp2
      go_ret
      exact ⟨rfl, by go_simp⟩
  · have uF : (f == 0) = false := by simpa using hf
    obtain rfl : y' = y := by rw [← HY.out.1, ← HY.out.2, HK3.out hf]
    clear hf
    by_cases hi : id = x.f1
    · have uI : (id == x.f1) = true := by simpa using hi
      clear hi
      go_wp2
      go_ret
      exact ⟨rfl, by go_simp⟩
    · have uI : (id == x.f1) = false := by simpa using hi
      clear hi
      go_wp2
      go_ret
      exact ⟨rfl, by go_simp⟩
theorem keeps_law (first m : Int) (A : Option Addr) (c : Nat) (xs : List S) (x : S) (id : Int) (w : World) (h0 : 0 ≤ first) (h1 : first ≤ 255) (h2 : 0 ≤ m) (h3 : m ≤ 255) (hC : Kd.C kS w A xs.length xs) (hbig : xs.length ≤ 9223372036854775807) (hW : ∀ x ∈ xs, Wid x.f1) (hx : Wid x.f1) (hid : Wid id) :
    Calls Try.prog 4 #[.int .u8 first, .int .u8 m, .slice A xs.length c, .agg (vS x), .int .i64 id] w fun e w' => e = .returned (.bool true) ∧ Below w.heap.size w w' := by
  by_cases hq : x.f0 = 2
  · exact keeps2 first m A c xs x id w h0 h1 h2 h3 hC hbig hW hx hid hq
  · exact keeps1 first m A c xs x id w h0 h1 h2 h3 hC hbig hW hx hid hq
end Go.Proofs.Ytbglgblngfbhbaa.Bk
