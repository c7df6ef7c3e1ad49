/- Contracts by hand of the functions that hold a loop over an iterator: prio.Levels, its closure, prio.Points, law.levels. -/
import Derived.Test.YtoldcfgedmjmfaaIt
import Derived.Test.YtoldcfgedmjmfaaBits
import Derived.Test.YtoldcfgedmjmfaaProg
import Derived.Maps.AppendAt
import Derived.Outline
namespace Go.Proofs.Ytoldcfgedmjmfaa
open Go.RowKit Go.Shelf
attribute [local go_sem] Oper.semAt_some

theorem Level_c (a b : Int) (w : World) : Calls Try.prog 14 #[.int .i64 a, .int .i64 b] w fun e w' => e = .returned (.int .i64 (bits .and .i64 a b)) ∧ w = w' := by
  go_enter Try.func14, Try.ntmps14
  go_wp2
  go_ret
  exact ⟨rfl, rfl⟩

theorem Levels_c (m : Int) (w : World) : Calls Try.prog 28 #[.int .i64 m] w fun e w' => e = .returned (.func (.func 30) #[] #[.pointer (some ⟨w.heap.size, 0, none⟩)]) ∧ w.alloc (.cells #[.int .i64 m] 3) = w' := by
  go_enter Try.func28, Try.ntmps28
  go_wp2
  go_ret
  exact ⟨rfl, rfl⟩

def lastOf (xs : List Int) : Int := xs.getLast?.getD (-1)
def lvUpto (m : Int) : Nat → List Int
  | 0 => []
  | k + 1 => if lastOf (lvUpto m k) = bits .and .i64 (8 * k) m then lvUpto m k else lvUpto m k ++ [bits .and .i64 (8 * k) m]
def lv (m : Int) : List Int := lvUpto m 32
theorem lvUpto_mono (m : Int) (k d : Nat) : ∃ post, lvUpto m (k + d) = lvUpto m k ++ post := by
  induction d with
  | zero => exact ⟨[], by simp⟩
  | succ d ih =>
    obtain ⟨post, h⟩ := ih
    rw [show k + (d + 1) = (k + d) + 1 by omega, lvUpto]
    split
    · exact ⟨post, h⟩
    · exact ⟨post ++ [bits .and .i64 (8 * (k + d : Nat)) m], by rw [h, List.append_assoc]⟩
theorem lv_at (m : Int) (k : Nat) (hk : k < 32) (h : lastOf (lvUpto m k) ≠ bits .and .i64 (8 * k) m) : ∃ post, lv m = lvUpto m k ++ bits .and .i64 (8 * k) m :: post := by
  obtain ⟨post, hp⟩ := lvUpto_mono m (k + 1) (31 - k)
  refine ⟨post, ?_⟩
  rw [show k + 1 + (31 - k) = 32 by omega] at hp
  rw [lv, hp, lvUpto, if_neg h]; simp
theorem lvUpto_length (m : Int) (k : Nat) : (lvUpto m k).length ≤ k := by
  induction k with
  | zero => simp [lvUpto]
  | succ k ih => rw [lvUpto]; split <;> (first | (simp; omega) | omega)
theorem lv_length (m : Int) : (lv m).length ≤ 32 := lvUpto_length m 32
theorem lastOf_snoc (xs : List Int) (x : Int) : lastOf (xs ++ [x]) = x := by simp [lastOf]

set_option maxRecDepth 100000 in
set_option maxHeartbeats 400000 in
theorem lv_iter (Pv : Obj → Prop) (S : Nat → Prop) (m : Int) (Bm : Nat) (W0 : World) (hS : S Bm) (hc : Boxed W0 Bm 3 (.int .i64 m)) :
    Iter Pv Try.prog 30 #[.pointer (some ⟨Bm, 0, none⟩)] (fun x : Int => #[.int .i64 x]) (KeepsS S) (lv m) W0 := by
  intro l J Jx W hW hJ hJx hY h0
  have hc1 : Boxed W Bm 3 (.int .i64 m) := (hW.block Bm hc.lt).trans hc
  clear hc
  refine callsIn_of_wp Try.func30 rfl trivial ?_ rfl
  simp only [Try.ntmps30, List.size_toArray, List.length_cons, List.length_nil, Nat.reduceAdd, Nat.reduceSub, Array.replicate_succ, Array.replicate_zero, List.push_toArray, List.append_toArray, List.nil_append, List.cons_append]
  gi_wp2
  gi_loopw [3, 4] (fun last p wr => ∃ k : Nat, k ≤ 32 ∧ p = .int .i64 (8 * k) ∧ last = .int .i64 (lastOf (lvUpto m k)) ∧ J (lvUpto m k) wr ∧ KeepsS S W wr) (fun _ p _ => 256 - (intOf p).toNat)
  case atStart => exact ⟨0, by omega, rfl, rfl, h0, KeepsS.refl _ _⟩
  case round =>
    obtain ⟨k, hk, rfl, rfl, hj, hB⟩ := hrel
    have hcr : wr.cell? ⟨Bm, 0, none⟩ = some (.int .i64 m) := (hB.boxed hS hc1).cell
    by_cases hlt : k < 32
    · by_cases he : lastOf (lvUpto m k) = bits .and .i64 (8 * k) m
      · have ht : (bits .and .i64 (8 * k) m != lastOf (lvUpto m k)) = false := by rw [bne_eq_false_iff_eq]; exact he.symm
        have hs : lvUpto m (k + 1) = lvUpto m k := by rw [lvUpto, if_pos he]
        have HS := Lib.hid hs
        clear hs he
        gi_wp2_with (gi_at_call 14; refine (in_of_calls (Level_c _ _ _)).mono ?_; rintro e w' ⟨rfl, rfl⟩)

        go_roundw
        case rel => exact ⟨k + 1, by omega, congrArg (Value.int .i64) (by omega), by rw [HS.out], by rw [HS.out]; exact hj, hB⟩
        case measure => simp [intOf]; omega
      · have ht : (bits .and .i64 (8 * k) m != lastOf (lvUpto m k)) = true := by rw [bne_iff_ne]; exact fun e => he e.symm
        have hs : lvUpto m (k + 1) = lvUpto m k ++ [bits .and .i64 (8 * k) m] := by rw [lvUpto, if_neg he]
        have HS := Lib.hid hs
        obtain ⟨post, hxs⟩ := lv_at m k hlt he
        obtain ⟨fn, tmps, assign, body, hy, hR⟩ := hY _ _ _ wr hxs hj
        have HX := Lib.hid hxs
        clear hs he hxs
        gi_wp2_with (gi_at_call 14; refine (in_of_calls (Level_c _ _ _)).mono ?_; rintro e w' ⟨rfl, rfl⟩)
        refine hR.mono ?_
        rintro e W3 (⟨rfl, hJ3, hk3⟩ | ⟨rfl, hJx3⟩)
        · gi_wp2
          go_roundw
          case rel => exact ⟨k + 1, by omega, congrArg (Value.int .i64) (by omega), by rw [HS.out, lastOf_snoc], by rw [HS.out]; exact hJ3, hB.trans hk3⟩
          case measure => simp [intOf]; omega
        · gi_wp2
          refine bodyPost_ret (results_none rfl _ _ _) rfl ?_
          exact ⟨⟨_, rfl⟩, .inr ⟨_, _, _, HX.out, hJx3⟩⟩
    · obtain rfl : k = 32 := by omega
      gi_wp2
      go_end0
      exact ⟨⟨_, rfl⟩, .inl hj⟩

/-- the mask of a group and a binary point, in closed form -/
def maskJ (g p : Int) : Nat := if g = 0 then (p % 8 + 1).toNat else (max 1 (p % 8)).toNat
def maskZ (g p : Int) : Int := 256 - 2 ^ maskJ g p
theorem maskJ_bd (g p : Int) : 1 ≤ maskJ g p ∧ maskJ g p ≤ 8 := by unfold maskJ; split <;> omega

theorem and7 (x : Int) : bits .and .i64 x 7 = x % 8 := and_low x 3 (by decide)

theorem Mask_c (g p : Int) (w : World) : Calls Try.prog 13 #[.int .i64 g, .int .i64 p] w fun e w' => e = .returned (.int .i64 (maskZ g p)) ∧ w = w' := by
  have h7 := and7 p
  have hm : p % 8 = 0 ∨ p % 8 = 1 ∨ p % 8 = 2 ∨ p % 8 = 3 ∨ p % 8 = 4 ∨ p % 8 = 5 ∨ p % 8 = 6 ∨ p % 8 = 7 := by omega
  have hz : ∀ b : Int, p % 8 = b → maskZ g p = 256 - 2 ^ (if g = 0 then (b + 1).toNat else (max 1 b).toNat) := by intro b h; unfold maskZ maskJ; rw [h]
  by_cases hg : g = 0
  · have hg1 : (g == 0) = true := beq_iff_eq.mpr hg
    rcases hm with h | h | h | h | h | h | h | h <;>
    · have hv := hz _ h
      rw [if_pos hg] at hv
      have HV := Lib.hid hv
      rw [h] at h7
      clear hz hv h hg
      go_enter Try.func13, Try.ntmps13
      go_wp2
      go_ret
      exact ⟨by rw [HV.out]; rfl, rfl⟩
  · have hg1 : (g == 0) = false := beq_eq_false_iff_ne.mpr hg
    rcases hm with h | h | h | h | h | h | h | h <;>
    · have hv := hz _ h
      rw [if_neg hg] at hv
      have HV := Lib.hid hv
      rw [h] at h7
      clear hz hv h hg
      go_enter Try.func13, Try.ntmps13
      go_wp2
      go_ret
      exact ⟨by rw [HV.out]; rfl, rfl⟩

set_option maxRecDepth 100000 in
set_option maxHeartbeats 400000 in
theorem Points_c (g p : Int) (w : World) : Calls Try.prog 24 #[.int .i64 g, .int .i64 p] w fun e w' => e = .returned (.int .i64 (lv (maskZ g p)).length) ∧ Below w.heap.size w w' := by
  refine calls_of_wide ?_
  refine callsIn_of_wp_marks Try.func24 rfl trivial ?_ rfl
  simp only [Try.ntmps24, List.size_toArray, List.length_cons, List.length_nil, Nat.reduceAdd, Nat.reduceSub, Array.replicate_succ, Array.replicate_zero, List.push_toArray, List.append_toArray, List.nil_append, List.cons_append]
  gi_wp2_with (first | (gi_at_call 13; refine (in_of_calls (Mask_c _ _ _)).mono ?_; rintro e w' ⟨rfl, rfl⟩) | (gi_at_call 28; refine (in_of_calls (Levels_c _ _)).mono ?_; rintro e w' ⟨rfl, rfl⟩))
  have bN := Boxed.new w 3 (.int .i64 0)
  have bM := Boxed.new (w.alloc (.cells #[.int .i64 0] 3)) 3 (.int .i64 (maskZ g p))
  rw [World.size_alloc] at bM
  refine wp_range (Pv := NoCells) (fun _ h => h) rfl (enters_of Try.func30 (by kernel_rfl) rfl) (lv_iter NoCells (fun k => k = w.heap.size + 1) (maskZ g p) (w.heap.size + 1) _ rfl bM) (Below.refl _ _)
    (fun h k => h.trans k) (KeepsS.put (by simp)) (fun _ => rfl)
    (fun pre W => Boxed W w.heap.size 3 (.int .i64 pre.length) ∧ Below w.heap.size w W) (fun _ _ _ => False)
    ((OwnP.box NoCells (by simp; omega) 3 _).and (OwnP.below NoCells (Nat.le_refl _) (by simp; omega))) (fun _ => OwnP.const _ _ (fun _ => False))
    ⟨bN.alloc _, ((Below.refl _ w).alloc (Nat.le_refl _) _).alloc (by simp) _⟩ ?round ?done ?stop
  case round =>
    rintro l pre x post W hxs hl hlt ⟨hb, hB⟩
    gi_wp2
    refine ⟨KeepsFrom.refl _ _, KeepsS.refl _ _, ⟨hb, hB⟩, ?_⟩
    rintro W2 hg ⟨hb2, hB2⟩
    have hc := hb2.cell
    have hf := hb2.frozen
    have hle : (pre.length : Int) + 1 ≤ 32 := by
      have h := lv_length (maskZ g p)
      rw [hxs] at h; simp at h; omega
    gi_wp2
    exact ⟨(KeepsOthers.setCell _ _ _).from _, KeepsS.set _ _ _ (fun k e => by omega), by simpa using hb2.set (.int .i64 (pre.length + 1)), hB2.setCell (p := ⟨w.heap.size, 0, none⟩) (Nat.le_refl _) _⟩
  case done =>
    rintro D W hD ⟨hb, hB⟩ hK
    have hc := hb.cell
    gi_wp2
    refine ⟨by simp, .inl ⟨_, _, rfl, run_takeDeferred hK, ?_⟩⟩
    exact ⟨_, results_tmp rfl _ _ _, rfl, hB.trans (belowK_b (w := w) (Nat.le_refl _) W D _ _ (by simp at hD; omega) hK rfl rfl)⟩
  case stop =>
    rintro D c pre x post W _ _ h _
    exact h.elim

theorem info3 : (Try.prog.info? 3).map (fun i => (i.zero, i.size, i.bytes)) = some (some (.int .i64 0), 1, 8) := by kernel_rfl

set_option maxRecDepth 100000 in
set_option maxHeartbeats 400000 in
theorem levels_c (m : Int) (w : World) : Calls Try.prog 22 #[.int .i64 m] w fun e w' => ∃ v, e = .returned v ∧ w'.ownsRow w.heap.size 3 1 v (lv m).length ((lv m).map (Value.int .i64)) ∧ Below w.heap.size w w' := by
  obtain ⟨i0, hi, hz0, hz1, hz2⟩ := info_parts info3
  refine calls_of_wide ?_
  refine callsIn_of_wp_marks Try.func22 rfl trivial ?_ rfl
  simp only [Try.ntmps22, List.size_toArray, List.length_cons, List.length_nil, Nat.reduceAdd, Nat.reduceSub, Array.replicate_succ, Array.replicate_zero, List.push_toArray, List.append_toArray, List.nil_append, List.cons_append]
  gi_wp2_with (gi_at_call 28; refine (in_of_calls (Levels_c _ _)).mono ?_; rintro e w' ⟨rfl, rfl⟩)
  have bN := Boxed.new w 34 (.slice none 0 0)
  have bM := Boxed.new (w.alloc (.cells #[.slice none 0 0] 34)) 3 (.int .i64 m)
  rw [World.size_alloc] at bM
  refine wp_range (Pv := NoCells) (fun _ h => h) rfl (enters_of Try.func30 (by kernel_rfl) rfl) (lv_iter NoCells (fun k => k = w.heap.size + 1) m (w.heap.size + 1) _ rfl bM) (Below.refl _ _)
    (fun h k => h.trans k) (KeepsS.put (by simp)) (fun _ => rfl)
    (fun pre W => (∃ v, Boxed W w.heap.size 34 v ∧ W.ownsRow (w.heap.size + 2) 3 1 v pre.length (pre.map (Value.int .i64)) ∧ True) ∧ Below w.heap.size w W) (fun _ _ _ => False)
    ((OwnP.of_own (holdsRow_own (w.heap.size + 2) w.heap.size 34 3 1 _ _ _) _).and (OwnP.below NoCells (Nat.le_refl _) (by simp; omega))) (fun _ => OwnP.const _ _ (fun _ => False))
    ⟨⟨_, bN.alloc _, World.ownsRow_nil _ _ _ _, trivial⟩, ((Below.refl _ w).alloc (Nat.le_refl _) _).alloc (by simp) _⟩ ?round ?done ?stop
  case round =>
    rintro l pre x post W hxs hl hlt ⟨⟨v, hb, hrow, -⟩, hB⟩
    gi_wp2
    refine ⟨KeepsFrom.refl _ _, KeepsS.refl _ _, ⟨⟨v, hb, hrow, trivial⟩, hB⟩, ?_⟩
    clear hb hrow hB
    rintro W2 hg ⟨⟨v, hb, hrow, -⟩, hB⟩
    have hle : pre.length + 1 ≤ 32 := by
      have h := lv_length m
      rw [hxs] at h; simp at h; omega
    have hsz : w.heap.size + 2 ≤ W2.heap.size := by have := hg.size; have := hl; simp at this; omega
    clear hxs hl hlt hg
    have hc := hb.cell
    gi_wp2_with (gi_at_builtin; refine wpListIn_append_own _ rfl _ _ 34 rfl (w.heap.size + 2) 3 i0 (.int .i64 0) 1 8 Try.underlying34 hi hz0 hz1 hz2 rfl (by decide) _ _ _ rfl (hrow.alloc _) ⟨W2.heap.size, 0, none⟩ 1 1 [.int .i64 x] rfl rfl (cell_one_new _ _ _) (by simp [Value.oneCell']) (by unfold maxLen; omega) (by omega) (by simp; omega) ?_; intro v' w1 hown' hgrow _; obtain ⟨g', cap', rfl⟩ := ownsRow_succ hown'; obtain ⟨hv1, hv2, hr2, hk2, hb2, hs2⟩ := box_append hb (by decide) hrow hown' hgrow; have hc1 := hv1.cell; have hf1 := hv1.frozen; have hc2 := hv2.cell)
    exact ⟨hk2.from _, hs2 _ (fun i e => by omega), ⟨_, hv2, by simpa using hr2, trivial⟩, hB.trans (hb2 _ (by omega) (Nat.le_refl _) (by omega))⟩
  case done =>
    rintro D W hD ⟨⟨v, hb, hrow, -⟩, hB⟩ hK
    have hc := hb.cell
    gi_wp2
    refine ⟨by simp, .inl ⟨_, _, rfl, run_takeDeferred hK, ?_⟩⟩
    exact ⟨_, results_tmp rfl _ _ _, v, rfl, ownsRow_lower (ownsRow_putObj hrow _ hK rfl) (by omega), hB.trans (belowK_b (w := w) (Nat.le_refl _) W D _ _ (by simp at hD; omega) hK rfl rfl)⟩
  case stop =>
    rintro D c pre x post W _ _ h _
    exact h.elim
end Go.Proofs.Ytoldcfgedmjmfaa
