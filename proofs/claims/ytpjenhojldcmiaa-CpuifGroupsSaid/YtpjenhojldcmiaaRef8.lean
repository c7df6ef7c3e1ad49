/- Contracts by hand: the document's ladder (crierref08), told by two numbers as the program's is. -/
import Derived.Test.YtpjenhojldcmiaaLad
import Derived.WalkSmall
import Derived.OwnWalk
import Derived.Laws.ResultCell
namespace Go.Proofs.Ytpjenhojldcmiaa
open Go.RowKit Go.Shelf
attribute [local go_sem] Oper.semAt_some
theorem infoL : (Try.prog.info? 59).map (·.size) = some 64 := by kernel_rfl
theorem load_lad {ops : Array Oper} {rest : List Oper} {o : Oper} {a : Act} {w : World} {Q : Exit → Act → World → Prop} (hgd : o.guard = none) (x : Operand) (ho : o.op = .load 59 x)
    (g : Nat) (hx : a.eval x = .pointer (some ⟨g, 0, none⟩)) (t : TypeId) (f : Nat → Bool) (hg : BoxN w g t (Lb f))
    (h : wpList Try.prog ops Q rest (a.put o.dst (.agg (Lb f))) w) : wpList Try.prog ops Q (o :: rest) a w :=
  wpList_load_row hgd _ x ho g hx t _ (0, 0) _ hg Try.underlying59 rfl (by rw [Lb_size]; exact infoL) h
theorem store_lad {ops : Array Oper} {rest : List Oper} {o : Oper} {a : Act} {w : World} {Q : Exit → Act → World → Prop} (hgd : o.guard = none) (x y : Operand) (ho : o.op = .store 59 x y)
    (g : Nat) (f f0 : Nat → Bool) (hx : a.eval x = .pointer (some ⟨g, 0, none⟩)) (hy : a.eval y = .agg (Lb f)) (t : TypeId) (hg : BoxN w g t (Lb f0))
    (h : wpList Try.prog ops Q rest (a.put o.dst undef) (w.setRow g (Lb f))) : wpList Try.prog ops Q (o :: rest) a w :=
  wpList_store_row hgd _ x y ho g _ hx hy t _ hg (by rw [Lb_size]; exact infoL) (by rw [Lb_size, Lb_size]) (Lb_one f) h
theorem load_lad' {ops : Array Oper} {rest : List Oper} {d : Option Tmp} {ty : TypeId} {pos : String} {af : Array Edge} {x : Operand} {a : Act} {w : World} {Q : Exit → Act → World → Prop} {g : Nat} {t : TypeId} {f : Nat → Bool}
    (hx : a.eval x = .pointer (some ⟨g, 0, none⟩)) (hg : BoxN w g t (Lb f)) (h : wpList Try.prog ops Q rest (a.put d (.agg (Lb f))) w) :
    wpList Try.prog ops Q ({ dst := d, op := .load 59 x, type := ty, pos := pos, after := af, guard := none } :: rest) a w := load_lad rfl x rfl g hx t f hg h
theorem store_lad' {ops : Array Oper} {rest : List Oper} {d : Option Tmp} {ty : TypeId} {pos : String} {af : Array Edge} {x y : Operand} {a : Act} {w : World} {Q : Exit → Act → World → Prop} {g : Nat} {t : TypeId} {f f0 : Nat → Bool}
    (hx : a.eval x = .pointer (some ⟨g, 0, none⟩)) (hy : a.eval y = .agg (Lb f)) (hg : BoxN w g t (Lb f0)) (h : wpList Try.prog ops Q rest (a.put d undef) (w.setRow g (Lb f))) :
    wpList Try.prog ops Q ({ dst := d, op := .store 59 x y, type := ty, pos := pos, after := af, guard := none } :: rest) a w := store_lad rfl x y rfl g f f0 hx hy t hg h
theorem res_lad {fn : Func} {p u : Tmp} (h : fn.results = #[.cell p 59, .tmp u]) (tmps : Array Value) (w : World) (g : Nat) (t : TypeId) (f : Nat → Bool) (hp : tmps.getD p undef = .pointer (some ⟨g, 0, none⟩)) (hg : BoxN w g t (Lb f)) (v : Value) (hv : tmps.getD u undef = v) :
    (results fn tmps).run Try.prog w = .ok (.tuple #[.agg (Lb f), v]) w := by
  rw [results_cell_tmp h tmps Try.prog w, hp]
  simp only [asAddr, Sem.run_pure, Result.andThen_ok, run_loadVar_row w g t 59 (Lb f) (0, 0) _ hg Try.underlying59 rfl (by rw [Lb_size]; exact infoL), hv]

set_option maxRecDepth 100000 in
set_option maxHeartbeats 2000000 in
theorem rOf_c (a b : Int) (ha : 0 ≤ a) (ha' : a ≤ 4294967295) (hb : 0 ≤ b) (hb' : b ≤ 4294967295) (w : World) : Calls Try.prog 40 #[.int .u32 a, .int .u32 b] w fun e w' => e = .returned (.agg (Lb (rb a b))) ∧ Below w.heap.size w w' := by
  go_enter Try.func40, Try.ntmps40
  go_wp2
  rw [← Lb_false]
  have hB0 : Below w.heap.size w ((w.alloc (.cells (Lb fun _ => false) 59)).alloc (.cells (Lb fun _ => false) 59)) := ((Below.refl _ w).alloc (Nat.le_refl _) _).alloc (by simp) _
  have b0 : BoxN ((w.alloc (.cells (Lb fun _ => false) 59)).alloc (.cells (Lb fun _ => false) 59)) w.heap.size 59 (Lb fun _ => false) := (BoxN.new w 59 _).alloc _
  have b1 : BoxN ((w.alloc (.cells (Lb fun _ => false) 59)).alloc (.cells (Lb fun _ => false) 59)) (w.heap.size + 1) 59 (Lb fun _ => false) := by
    have := BoxN.new (w.alloc (.cells (Lb fun _ => false) 59)) 59 (Lb fun _ => false); rwa [World.size_alloc] at this
  generalize (w.alloc (.cells (Lb fun _ => false) 59)).alloc (.cells (Lb fun _ => false) 59) = W0 at *
  go_loopw [0, 1, 6] (fun p q r wr => ∃ k : Nat, k ≤ 32 ∧ p = .int .u32 (a / 2 ^ k) ∧ q = .int .u32 (b / 2 ^ k) ∧ r = .int .i64 k ∧ BoxN wr w.heap.size 59 (Lb fun _ => false) ∧ BoxN wr (w.heap.size + 1) 59 (Lb fun i => decide (i < 2 * k) && rb a b i) ∧ Below w.heap.size w wr) (fun _ _ r _ => 32 - (intOf r).toNat)
  case atStart => exact ⟨0, by omega, by simp, by simp, rfl, b0, by simpa using b1, hB0⟩
  case round =>
    clear b0 b1 hB0
    obtain ⟨k, hk, rfl, rfl, rfl, b0, b1, hB⟩ := hrel
    have hra := half_range a k ha ha'
    have hrb := half_range b k hb hb'
    have HA := Lib.hid (half_bit a k)
    have HB := Lib.hid (half_bit b k)
    have HSA := Lib.hid (half_step a k)
    have HSB := Lib.hid (half_step b k)
    obtain ⟨hra0, hra1⟩ := hra
    obtain ⟨hrb0, hrb1⟩ := hrb
    generalize a / 2 ^ k = x at *
    generalize b / 2 ^ k = y at *
    by_cases hlt : k < 32
    · have c1 := b1.cell (i := 2 * k) (Lb_get _ _ (by omega))
      have c2 := b1.cell (i := 2 * k + 1) (Lb_get _ _ (by omega))
      have f1 := b1.frozen (2 * k)
      have f2 := b1.frozen (2 * k + 1)
      go_wp2
      go_roundw
      case rel =>
        refine ⟨k + 1, by omega, by rw [HSA.out], by rw [HSB.out], by go_num, boxN_other (boxN_other b0 _ (by simp) _) _ (by simp) _, ?_, (hB.setCell (p := ⟨w.heap.size + 1, 2 * k, none⟩) (by simp) _).setCell (p := ⟨w.heap.size + 1, 2 * k + 1, none⟩) (by simp) _⟩
        have z := boxN_setCell (boxN_setCell b1 (2 * k) (.bool (x % 2 == 1))) (2 * k + 1) (.bool (y % 2 == 1))
        rw [HA.out, HB.out, Lb_set, Lb_set] at z
        rw [HA.out, HB.out]
        rwa [Lb_ext (g := fun i => decide (i < 2 * (k + 1)) && rb a b i)] at z
        intro i hi
        by_cases e1 : i = 2 * k + 1
        · subst e1; simp [rb, show (2 * k + 1) % 2 = 1 by omega, show (2 * k + 1) / 2 = k by omega]; intro _; omega
        · by_cases e2 : i = 2 * k
          · subst e2; simp [rb]
          · simp only [e1, e2, if_false]
            congr 1
            exact decide_eq_decide.2 (by omega)
      case measure => simp [intOf]; omega
    · have b1' : BoxN wr (w.heap.size + 1) 59 (Lb (rb a b)) := by rwa [Lb_ext (g := rb a b) (fun i hi => by simp; omega)] at b1
      go_wp2_with (first | ((with_reducible apply load_lad'); exact rfl; (with_reducible assumption)) | ((with_reducible apply store_lad'); exact rfl; exact rfl; (with_reducible assumption)))
      exact bodyPost_ret (v := .agg (Lb (rb a b))) (results_cell_row rfl _ _ w.heap.size _ _ (0, 0) _ rfl (boxN_row b0) Try.underlying59 rfl (by rw [Lb_size]; exact infoL)) rfl ⟨rfl, below_row hB (Nat.le_refl _) _⟩

theorem shr_step (p : Int) (i : Nat) (h3 : 3 ≤ i) : p % 2 ^ (i + 1) / 8 = p % 2 ^ i / 8 + if p / 2 ^ i % 2 = 1 then 2 ^ (i - 3) else 0 := by
  obtain ⟨j, rfl⟩ : ∃ j, i = j + 3 := ⟨i - 3, by omega⟩
  have e1 : (2 : Int) ^ (j + 3) = 8 * 2 ^ j := by rw [Int.pow_add]; omega
  have hp : (2 : Int) ^ j > 0 := Int.pow_pos (by decide)
  have e2 : p % 2 ^ (j + 3 + 1) = p % 2 ^ (j + 3) + 2 ^ (j + 3) * (p / 2 ^ (j + 3) % 2) := by
    have h1 := Int.emod_add_mul_ediv p (2 ^ (j + 3 + 1))
    have h2 := Int.emod_add_mul_ediv p (2 ^ (j + 3))
    have h3 : p / 2 ^ (j + 3 + 1) = p / 2 ^ (j + 3) / 2 := by rw [Int.pow_succ, Int.ediv_ediv_of_nonneg (by omega)]
    have h4 := Int.emod_add_mul_ediv (p / 2 ^ (j + 3)) 2
    rw [h3] at h1
    rw [Int.pow_succ] at h1 ⊢
    generalize (2 : Int) ^ (j + 3) = P at *
    generalize p / P = q at *
    have : P * 2 * (q / 2) = P * q - P * (q % 2) := by
      rw [← Int.mul_sub, Int.mul_assoc]; congr 1; omega
    omega
  rw [e2, e1, show j + 3 - 3 = j by omega]
  generalize (2 : Int) ^ j = P at *
  split
  · rename_i h; rw [h]; omega
  · rename_i h; rw [show p / (8 * P) % 2 = 0 by omega]; omega
set_option maxRecDepth 100000 in
set_option maxHeartbeats 2000000 in
theorem place_c (g p : Int) (w : World) : Calls Try.prog 56 #[.int .i64 g, .int .i64 p] w fun e w' => e = .returned (.int .i64 (2 * (pl p : Int) + g % 2)) ∧ w = w' := by
  have hpl : p % 256 / 8 = (pl p : Int) := by unfold pl; omega
  have hl := pl_lt p
  generalize pl p = j at *
  have HPL := Lib.hid hpl
  clear hpl
  go_enter Try.func56, Try.ntmps56
  go_wp2
  go_loop [5, 6] (fun n i => ∃ k : Nat, 3 ≤ k ∧ k ≤ 8 ∧ i = .int .i64 k ∧ n = .int .i64 (p % 2 ^ k / 8)) (fun _ i => 8 - (intOf i).toNat)
  case atStart => exact ⟨3, by omega, by omega, rfl, by go_num⟩
  case round =>
    obtain ⟨k, hk3, hk, rfl, rfl⟩ := hrel
    by_cases hlt : k < 8
    · have HS := Lib.hid (shr_step p k hk3)
      have h1 := and1 (p / 2 ^ k)
      have hp0 : 0 ≤ p % 2 ^ k / 8 := Int.ediv_nonneg (Int.emod_nonneg _ (by have := Int.pow_pos (n := 2) (m := k) (by decide); omega)) (by omega)
      have hp1 : p % 2 ^ k / 8 ≤ 1000 := by
        have h := Int.emod_lt_of_pos p (show (0 : Int) < 2 ^ k from Int.pow_pos (by decide))
        have : (2 : Int) ^ k ≤ 2 ^ 8 := by have := Nat.pow_le_pow_right (n := 2) (by decide) hk; exact_mod_cast this
        omega
      by_cases hb : p / 2 ^ k % 2 = 1
      · rw [if_pos hb] at HS
        rw [hb] at h1
        clear hb
        have hq0 : (0 : Int) ≤ 2 ^ (k - 3) := Int.le_of_lt (Int.pow_pos (by decide))
        have hq1 : (2 : Int) ^ (k - 3) ≤ 1000 := by
          have h : (2 : Int) ^ (k - 3) ≤ 2 ^ 5 := by have := Nat.pow_le_pow_right (n := 2) (by decide) (show k - 3 ≤ 5 by omega); exact_mod_cast this
          omega
        generalize p % 2 ^ k / 8 = m at *
        go_wp2
        go_round
        case rel => exact ⟨k + 1, by omega, by omega, by go_num, by rw [HS.out]⟩
        case measure => simp [intOf]; omega
      · have hb' : p / 2 ^ k % 2 = 0 := by omega
        rw [if_neg hb] at HS
        rw [hb'] at h1
        clear hb hb'
        generalize p % 2 ^ k / 8 = m at *
        go_wp2
        go_round
        case rel => exact ⟨k + 1, by omega, by omega, by go_num, by rw [HS.out, Int.add_zero]⟩
        case measure => simp [intOf]; omega
    · have hk8 : k = 8 := by omega
      have HP := Lib.hid (show p % 2 ^ k / 8 = (j : Int) by subst hk8; exact HPL.out)
      have h1 := and1 g
      clear hk8
      rw [HP.out]
      clear HP
      go_wp2
      go_ret
      exact ⟨rfl, rfl⟩
/-- where a priority of a group stands -/
def spot (g p : Int) : Nat := 2 * pl p + (g % 2).toNat
theorem spot_lt (g p : Int) : spot g p < 64 := by have := pl_lt p; unfold spot; omega
theorem spot_c (g p : Int) (w : World) : Calls Try.prog 56 #[.int .i64 g, .int .i64 p] w fun e w' => e = .returned (.int .i64 (spot g p : Nat)) ∧ w = w' :=
  (place_c g p w).mono fun e w' ⟨h1, h2⟩ => ⟨by rw [h1]; congr 2; unfold spot; omega, h2⟩

set_option maxRecDepth 100000 in
set_option maxHeartbeats 2000000 in
theorem rSet_c (f : Nat → Bool) (g p : Int) (is : Bool) (w : World) : Calls Try.prog 50 #[.agg (Lb f), .int .i64 g, .int .i64 p, .bool is] w fun e w' => e = .returned (.agg (Lb fun j => if j = spot g p then is else f j)) ∧ Below w.heap.size w w' := by
  have hs := spot_lt g p
  have hS := spot_c g p
  generalize spot g p = j at *
  have HS := Lib.hid hS
  clear hS
  go_enter Try.func50, Try.ntmps50
  go_wp2_with fail
  rw [← Lb_false]
  have hB0 : Below w.heap.size w ((w.alloc (.cells (Lb f) 59)).alloc (.cells (Lb fun _ => false) 59)) := ((Below.refl _ w).alloc (Nat.le_refl _) _).alloc (by simp) _
  have b0 : BoxN ((w.alloc (.cells (Lb f) 59)).alloc (.cells (Lb fun _ => false) 59)) w.heap.size 59 (Lb f) := (BoxN.new w 59 _).alloc _
  have b1 : BoxN ((w.alloc (.cells (Lb f) 59)).alloc (.cells (Lb fun _ => false) 59)) (w.heap.size + 1) 59 (Lb fun _ => false) := by
    have := BoxN.new (w.alloc (.cells (Lb f) 59)) 59 (Lb fun _ => false); rwa [World.size_alloc] at this
  generalize (w.alloc (.cells (Lb f) 59)).alloc (.cells (Lb fun _ => false) 59)  = W0 at *
  have c0 := b0.cell (i := j) (Lb_get _ _ hs)
  have f0 := b0.frozen j
  have b0' : BoxN (W0.setCell ⟨w.heap.size, j, none⟩ (.bool is)) w.heap.size 59 (Lb fun i => if i = j then is else f i) := by rw [← Lb_set]; exact boxN_setCell b0 j (.bool is)
  have b1' : BoxN (W0.setCell ⟨w.heap.size, j, none⟩ (.bool is)) (w.heap.size + 1) 59 (Lb fun _ => false) := boxN_other b1 _ (by simp) _
  go_wp2_with (first | (go_at_call 56; refine (HS.out _).mono ?_; rintro e w' ⟨rfl, rfl⟩) | ((with_reducible apply load_lad'); exact rfl; (with_reducible assumption)) | ((with_reducible apply store_lad'); exact rfl; exact rfl; (with_reducible assumption)))
  exact bodyPost_ret (v := .agg (Lb fun i => if i = j then is else f i)) (results_cell_row rfl _ _ (w.heap.size + 1) _ _ (0, 0) _ rfl (boxN_row b1') Try.underlying59 rfl (by rw [Lb_size]; exact infoL)) rfl ⟨rfl, below_row (hB0.setCell (p := ⟨w.heap.size, j, none⟩) (by simp) _) (by omega) _⟩

theorem own_base {W : World} {n₀ : Nat} {e : TypeId} {size : Nat} {v : Value} {k : Nat} {xs : List Value} (hrow : W.ownsRow n₀ e size v k xs) : ∀ j, v.ownBlock = some j → n₀ ≤ j := by
  intro j hj
  rcases hrow.2 with ⟨rfl, _⟩ | ⟨g, cap, cur, rfl, hb, _, _⟩
  · simp [Value.ownBlock] at hj
  · obtain rfl : g = j := by simpa [Value.ownBlock] using hj
    exact hb
theorem own_below {W w1 : World} {n₀ : Nat} {e : TypeId} {size : Nat} {v : Value} {k : Nat} {xs : List Value} {tmp : Obj} (hrow : W.ownsRow n₀ e size v k xs) (hn : n₀ ≤ W.heap.size) (hgrow : (W.alloc tmp).grownBy w1 v.ownBlock) : Below n₀ W w1 :=
  ((Below.refl n₀ W).alloc hn tmp).grown hgrow (by simp; omega) (own_base hrow)
theorem rinfo3 : (Try.prog.info? 3).map (fun i => (i.zero, i.size, i.bytes)) = some (some (.int .i64 0), 1, 8) := by kernel_rfl
def flat' (l : List (Int × Int)) : List Int := l.flatMap fun x => [x.1, x.2]
theorem flat'_snoc (l : List (Int × Int)) (x : Int × Int) : flat' (l ++ [x]) = flat' l ++ [x.1, x.2] := by simp [flat']
theorem flat'_length (l : List (Int × Int)) : (flat' l).length = 2 * l.length := by
  induction l with
  | nil => rfl
  | cons x l ih => simp [flat'] at ih ⊢; omega
theorem upto_length (a b : Int) (n : Nat) : (allUpto a b n).length ≤ n := by
  induction n with
  | zero => simp [allUpto]
  | succ n ih =>
    have : (cell a b n).length ≤ 1 := by unfold cell; split <;> simp
    rw [allUpto, List.length_append]; omega
set_option maxRecDepth 100000 in
set_option maxHeartbeats 2000000 in
theorem rAll_c (a b : Int) (w : World) : Calls Try.prog 53 #[.agg (Lb (rb a b))] w fun e w' => ∃ v, e = .returned v ∧ w'.ownsRow w.heap.size 3 1 v (flat' (allL a b)).length ((flat' (allL a b)).map (Value.int .i64)) ∧ Below w.heap.size w w' := by
  obtain ⟨i0, hi, hz0, hz1, hz2⟩ := info_parts rinfo3
  go_enter Try.func53, Try.ntmps53
  go_wp2_with fail
  have hB0 : Below w.heap.size w (w.alloc (.cells (Lb (rb a b)) 59)) := ((Below.refl _ w).alloc (Nat.le_refl _) _)
  have b0 : BoxN (w.alloc (.cells (Lb (rb a b)) 59)) w.heap.size 59 (Lb (rb a b)) := BoxN.new w 59 _
  have hz : (w.alloc (.cells (Lb (rb a b)) 59)).heap.size = w.heap.size + 1 := by simp
  generalize w.alloc (.cells (Lb (rb a b)) 59) = W0 at *
  go_loopw [3, 4] (fun v i wr => ∃ k : Nat, k ≤ 64 ∧ i = .int .i64 k ∧ wr.ownsRow (w.heap.size + 1) 3 1 v (flat' (allUpto a b k)).length ((flat' (allUpto a b k)).map (Value.int .i64)) ∧ BoxN wr w.heap.size 59 (Lb (rb a b)) ∧ Below w.heap.size w wr) (fun _ i _ => 64 - (intOf i).toNat)
  case atStart => exact ⟨0, by omega, rfl, World.ownsRow_nil _ _ _ _, b0, hB0⟩
  case round =>
    clear b0 hB0 hz
    obtain ⟨k, hk, rfl, hrow, b0, hB⟩ := hrel
    by_cases hlt : k < 64
    · have c0 := b0.cell (i := k) (Lb_get _ _ hlt)
      have hlen := upto_length a b k
      have hfl := flat'_length (allUpto a b k)
      have hsz : w.heap.size + 1 ≤ wr.heap.size := b0.lt
      by_cases hb : rb a b k = true
      · have hup : flat' (allUpto a b (k + 1)) = flat' (allUpto a b k) ++ [((8 * (k / 2 : Nat) : Int)), ((k % 2 : Nat) : Int)] := by
          rw [allUpto, cell, if_pos hb, flat'_snoc]
        have HU := Lib.hid hup
        rw [hb] at c0
        clear hup hb
        have hd : ((k : Int) / 2) = ((k / 2 : Nat) : Int) := by omega
        have hm : ((k : Int) % 2) = ((k % 2 : Nat) : Int) := by omega
        have hq : k / 2 ≤ 32 := by omega
        generalize k / 2 = q at *
        generalize k % 2 = m at *
        go_wp2_with (at_builtin; refine wpList_append_own _ rfl _ _ 93 rfl (w.heap.size + 1) 3 i0 (.int .i64 0) 1 8 Try.underlying93 hi hz0 hz1 hz2 rfl (by decide) _ _ _ rfl (hrow.alloc _) ⟨wr.heap.size, 0, none⟩ 2 2 [.int .i64 (8 * (q : Int)), .int .i64 (m : Int)] rfl rfl (cell_two_new _ _ _ _) (by simp [Value.oneCell']) (by unfold maxLen; omega) (by omega) (by simp; omega) ?_; intro v' w1 hown' hgrow _)
        have hBo := own_below hrow hsz hgrow
        go_roundw
        case rel => exact ⟨k + 1, by omega, by go_num, by rw [HU.out]; simpa using hown', b0.below hBo (by omega), hB.trans (hBo.mono (by omega))⟩
        case measure => simp [intOf]; omega
      · have hup : flat' (allUpto a b (k + 1)) = flat' (allUpto a b k) := by
          rw [allUpto, cell, if_neg hb, List.append_nil]
        have HU := Lib.hid hup
        have hb' : rb a b k = false := by simpa using hb
        rw [hb'] at c0
        clear hup hb hb'
        go_wp2
        go_roundw
        case rel => exact ⟨k + 1, by omega, by go_num, by rw [HU.out]; exact hrow, b0, hB⟩
        case measure => simp [intOf]; omega
    · have hk64 : k = 64 := by omega
      have hr : wr.ownsRow w.heap.size 3 1 u3 (flat' (allL a b)).length ((flat' (allL a b)).map (Value.int .i64)) := by
        subst hk64; exact ownsRow_lower hrow (by omega)
      clear hrow hk64
      have HR := Lib.hid hr
      clear hr
      go_wp2
      go_ret
      exact ⟨_, rfl, HR.out, hB⟩
end Go.Proofs.Ytpjenhojldcmiaa
