/- Contracts by hand of layer 12: the iterator over those that are called, and the two functions that hold a loop over it. -/
import Derived.Test.YtfenchaiflfobaaIt
import Derived.Test.YtfenchaiflfobaaBits
import Derived.Test.YtfenchaiflfobaaProg
import Derived.Test.YtfenchaiflfobaaWWords
import Derived.Test.YtfenchaiflfobaaWMore
import Derived.Maps.AppendAt
import Derived.WalkSmall
import Derived.Laws.EntriesVeiled
namespace Go.Proofs.Ytfenchaiflfobaa
open Go.RowKit Go.Shelf Go.Proofs.YtfenchaiflfobaaW.PrintWords Go.Proofs.YtfenchaiflfobaaW.PrintMore
attribute [local go_sem] Oper.semAt_some max2_int min2_int max_two min_two

/-- is processor k called? -/
def called (all odd : Bool) (t from_ : Int) (k : Nat) : Bool := if all then decide ((k : Int) ≠ from_) else tb t k && !odd
def toUpto (all odd : Bool) (t from_ : Int) : Nat → List Int
  | 0 => []
  | n + 1 => toUpto all odd t from_ n ++ if called all odd t from_ n then [(n : Int)] else []
/-- how many there are -/
def cnt (cores : Int) : Nat := (max 0 (min cores 8)).toNat
theorem cnt_le (cores : Int) : cnt cores ≤ 8 := by unfold cnt; omega
def toL (all odd : Bool) (t from_ cores : Int) : List Int := toUpto all odd t from_ (cnt cores)
theorem toUpto_mono (all odd : Bool) (t from_ : Int) (n d : Nat) : ∃ post, toUpto all odd t from_ (n + d) = toUpto all odd t from_ n ++ post := by
  induction d with
  | zero => exact ⟨[], by simp⟩
  | succ d ih =>
    obtain ⟨post, h⟩ := ih
    exact ⟨post ++ _, by rw [show n + (d + 1) = (n + d) + 1 by omega, toUpto, h, List.append_assoc]⟩
theorem toL_at (all odd : Bool) (t from_ cores : Int) (n : Nat) (hn : n < cnt cores) (h : called all odd t from_ n = true) : ∃ post, toL all odd t from_ cores = toUpto all odd t from_ n ++ (n : Int) :: post := by
  obtain ⟨post, hp⟩ := toUpto_mono all odd t from_ (n + 1) (cnt cores - (n + 1))
  rw [show n + 1 + (cnt cores - (n + 1)) = cnt cores by omega] at hp
  exact ⟨post, by rw [toL, hp, toUpto, if_pos h]; simp⟩
theorem toUpto_length (all odd : Bool) (t from_ : Int) (n : Nat) : (toUpto all odd t from_ n).length ≤ n := by
  induction n with
  | zero => simp [toUpto]
  | succ n ih => rw [toUpto, List.length_append]; split <;> simp <;> omega
theorem toL_length (all odd : Bool) (t from_ cores : Int) : (toL all odd t from_ cores).length ≤ 8 := Nat.le_trans (toUpto_length _ _ _ _ _) (cnt_le cores)

theorem To_c (id : Int) (all : Bool) (t : Int) (odd : Bool) (from_ cores : Int) (w : World) : Calls Try.prog 21 #[.agg #[.int .i64 id, .bool all, .int .i64 t, .bool odd], .int .i64 from_, .int .i64 cores] w fun e w' =>
    e = .returned (.func (.func 23) #[] #[.pointer (some ⟨w.heap.size + 2, 0, none⟩), .pointer (some ⟨w.heap.size, 0, none⟩), .pointer (some ⟨w.heap.size + 1, 0, none⟩)]) ∧
    ((w.alloc (.cells #[.int .i64 id, .bool all, .int .i64 t, .bool odd] 24)).alloc (.cells #[.int .i64 from_] 3)).alloc (.cells #[.int .i64 cores] 3) = w' := by
  go_enter Try.func21, Try.ntmps21
  go_wp2
  go_ret
  exact ⟨rfl, rfl⟩

set_option maxRecDepth 100000 in
set_option maxHeartbeats 1000000 in
theorem to_iter (Pv : Obj → Prop) (S : Nat → Prop) (T : TypeId → Prop) (id : Int) (all : Bool) (t : Int) (odd : Bool) (from_ cores : Int) (Bn Bc Bf : Nat) (W0 : World) (hSc : S Bc) (hSf : S Bf)
    (hn : Boxed W0 Bn 3 (.int .i64 cores)) (hc : BoxN W0 Bc 24 #[.int .i64 id, .bool all, .int .i64 t, .bool odd]) (hf : Boxed W0 Bf 3 (.int .i64 from_)) :
    Iter Pv Try.prog 23 #[.pointer (some ⟨Bn, 0, none⟩), .pointer (some ⟨Bc, 0, none⟩), .pointer (some ⟨Bf, 0, none⟩)] (fun x : Int => #[.int .i64 x]) (KeepsS S T) (toL all odd t from_ cores) W0 := by
  intro l J Jx W hW hJ hJx hY h0
  have hn1 : Boxed W Bn 3 (.int .i64 cores) := (hW.block Bn hn.lt).trans hn
  have hc1 : BoxN W Bc 24 #[.int .i64 id, .bool all, .int .i64 t, .bool odd] := (hW.block Bc hc.lt).trans hc
  have hf1 : Boxed W Bf 3 (.int .i64 from_) := (hW.block Bf hf.lt).trans hf
  clear hn hc hf
  have hcn := hn1.cell
  obtain ⟨mm, hmm⟩ : ∃ m : Int, (if (8 : Int) < cores then (8 : Int) else cores) = m := ⟨_, rfl⟩
  have hnn : (if (0 : Int) < mm then mm else 0) = (cnt cores : Int) := by rw [← hmm]; unfold cnt; split <;> split <;> omega
  have hle := cnt_le cores
  refine callsIn_of_wp Try.func23 rfl trivial ?_ rfl
  simp only [Try.ntmps23, List.size_toArray, List.length_cons, List.length_nil, Nat.reduceAdd, Nat.reduceSub, Array.replicate_succ, Array.replicate_zero, List.push_toArray, List.append_toArray, List.nil_append, List.cons_append]
  gi_wp2
  gi_loopw [10] (fun p wr => ∃ k : Nat, k ≤ cnt cores ∧ p = .int .i64 k ∧ J (toUpto all odd t from_ k) wr ∧ KeepsS S T W wr) (fun p _ => cnt cores - (intOf p).toNat)
  case atStart => exact ⟨0, by omega, rfl, h0, KeepsS.refl _ _ _⟩
  case round =>
    obtain ⟨k, hk, rfl, hj, hB⟩ := hrel
    by_cases hlt : k < cnt cores
    · have hd : decide ((k : Int) < (cnt cores : Int)) = true := decide_eq_true (by omega)
      have hcx := hB.boxN hSc hc1
      have hfx := hB.boxed hSf hf1
      have c1 := hcx.cell (i := 1) rfl
      have c2 := hcx.cell (i := 2) rfl
      have c3 := hcx.cell (i := 3) rfl
      have c4 := hfx.cell
      have hlow := bit_test_i t k
      cases hcall : called all odd t from_ k with
      | true =>
        have hs : toUpto all odd t from_ (k + 1) = toUpto all odd t from_ k ++ [(k : Int)] := by rw [toUpto, if_pos hcall]
        have HS := Lib.hid hs
        obtain ⟨post, hxs⟩ := toL_at all odd t from_ cores k hlt hcall
        obtain ⟨fn, tmps, assign, body, hy, hR⟩ := hY _ _ _ wr hxs hj
        have HX := Lib.hid hxs
        clear hs hxs
        cases all with
        | true =>
          have hne : ((k : Int) != from_) = true := by simpa [called] using hcall
          clear hcall
          gi_wp2
          refine hR.mono ?_
          rintro e W3 ⟨(⟨rfl, hJ3, hk3⟩ | ⟨rfl, hJx3⟩), -⟩
          · gi_wp2
            go_roundw
            case rel => exact ⟨k + 1, by omega, congrArg (Value.int .i64) (by omega), by rw [HS.out]; exact hJ3, hB.trans hk3⟩
            case measure => simp [intOf]; omega
          · gi_wp2
            refine bodyPost_ret (results_none rfl _ _ _) rfl ?_
            exact ⟨⟨_, rfl⟩, .inr ⟨_, _, _, HX.out, hJx3⟩⟩
        | false =>
          have ht : tb t k = true := by simp [called] at hcall; exact hcall.1
          have ho : odd = false := by simp [called] at hcall; exact hcall.2
          subst ho
          rw [ht] at hlow
          clear hcall
          gi_wp2
          refine hR.mono ?_
          rintro e W3 ⟨(⟨rfl, hJ3, hk3⟩ | ⟨rfl, hJx3⟩), -⟩
          · gi_wp2
            go_roundw
            case rel => exact ⟨k + 1, by omega, congrArg (Value.int .i64) (by omega), by rw [HS.out]; exact hJ3, hB.trans hk3⟩
            case measure => simp [intOf]; omega
          · gi_wp2
            refine bodyPost_ret (results_none rfl _ _ _) rfl ?_
            exact ⟨⟨_, rfl⟩, .inr ⟨_, _, _, HX.out, hJx3⟩⟩
      | false =>
        have hs : toUpto all odd t from_ (k + 1) = toUpto all odd t from_ k := by rw [toUpto, if_neg (by rw [hcall]; simp), List.append_nil]
        have HS := Lib.hid hs
        clear hs
        cases all with
        | true =>
          have hne : ((k : Int) != from_) = false := by simpa [called] using hcall
          clear hcall
          gi_wp2
          go_roundw
          case rel => exact ⟨k + 1, by omega, congrArg (Value.int .i64) (by omega), by rw [HS.out]; exact hj, hB⟩
          case measure => simp [intOf]; omega
        | false =>
          cases ht : tb t k with
          | true =>
            have ho : odd = true := by simpa [called, ht] using hcall
            subst ho
            rw [ht] at hlow
            clear hcall ht
            gi_wp2
            go_roundw
            case rel => exact ⟨k + 1, by omega, congrArg (Value.int .i64) (by omega), by rw [HS.out]; exact hj, hB⟩
            case measure => simp [intOf]; omega
          | false =>
            rw [ht] at hlow
            clear hcall ht
            gi_wp2
            go_roundw
            case rel => exact ⟨k + 1, by omega, congrArg (Value.int .i64) (by omega), by rw [HS.out]; exact hj, hB⟩
            case measure => simp [intOf]; omega
    · obtain rfl : k = cnt cores := by omega
      have hd : decide ((cnt cores : Int) < (cnt cores : Int)) = false := decide_eq_false (by omega)
      gi_wp2
      go_end0
      exact ⟨⟨_, rfl⟩, .inl hj⟩
end Go.Proofs.Ytfenchaiflfobaa
