/- What the laws of layer 12 share, in plain words. -/
import Derived.Test.YtfenchaiflfobaaIAllx4
import Derived.Test.YtfenchaiflfobaaByte
namespace Go.Proofs.Ytfenchaiflfobaa.Pure
open Go.RowKit Go.Proofs.Ytfenchaiflfobaa.IAll Go.Proofs.YtfenchaiflfobaaW.PrintWords Go.Proofs.YtfenchaiflfobaaW.PrintLast Go.Proofs.YtfenchaiflfobaaW.PrintMore

theorem wf_i64 {a : Int} (h : (Lit.int .i64 a).wf = true) : -9223372036854775808 ≤ a ∧ a ≤ 9223372036854775807 := by
  simpa [Lit.wf, IntKind.min, IntKind.max, IntKind.signed, IntKind.bits] using h
theorem wf_u64 {a : Int} (h : (Lit.int .u64 a).wf = true) : 0 ≤ a ∧ a ≤ 18446744073709551615 := by
  simpa [Lit.wf, IntKind.min, IntKind.max, IntKind.signed, IntKind.bits] using h
theorem w64 (n : Int) (h : -9223372036854775808 ≤ n ∧ n ≤ 9223372036854775807) : wrap64 n = n := IntWalk.wrap64_in n h
theorem awake10 : crierlaw12_awake.f 10 = some true := by decide +kernel
theorem awake_true (k : Nat) (h : 10 ≤ k) : crierlaw12_awake.f k = some true := by
  have := more_rounds (g := fun k => crierlaw12_awake.f k) crierlaw12_awake.mono 10 (k - 10) _ awake10
  rwa [show 10 + (k - 10) = k by omega] at this

theorem rd_eq (xs : List Int) (i : Nat) (h : i < xs.length) : rd xs (i : Int) = xs[i] := by
  simp [rd, List.getD_eq_getElem?_getD, List.getElem?_eq_getElem h]
/-- a list is the same as itself -/
theorem same_run (xs : List Int) (hn : xs.length ≤ 1000000) (m : Nat) : ∀ (K i : Nat), i + m = xs.length → crierref01_Same.l0 (m + 1 + K) xs xs (i : Int) = some true := by
  induction m with
  | zero =>
    intro K i hi
    rw [show 0 + 1 + K = K + 1 by omega]
    unfold crierref01_Same.l0
    rw [if_neg (by omega)]
  | succ m ih =>
    intro K i hi
    rw [show m + 1 + 1 + K = (m + 1 + K) + 1 by omega]
    have hrec := ih K (i + 1) (by omega)
    unfold crierref01_Same.l0
    rw [if_pos (by omega), if_pos (by omega), if_pos (by omega), if_pos rfl, w64 _ (by omega)]
    exact_mod_cast hrec
theorem same_self (xs : List Int) (hn : xs.length ≤ 1000000) (k : Nat) (hk : xs.length + 1 ≤ k) : crierref01_Same.f k xs xs = some true := by
  unfold crierref01_Same.f
  rw [if_pos rfl]
  have := same_run xs hn xs.length (k - (xs.length + 1)) 0 (by omega)
  rw [show xs.length + 1 + (k - (xs.length + 1)) = k by omega] at this
  exact this

/-- the number of some bits -/
theorem top_bit (y : Int) (m : Nat) (hy : 0 ≤ y) : y % 2 ^ (m + 1) = (if tb y m then 2 ^ m else 0) + y % 2 ^ m := by
  have h : (y.toNat : Int) = y := by omega
  generalize y.toNat = n at h
  subst h
  have hm := Nat.mod_mul (x := n) (a := 2 ^ m) (b := 2)
  rw [← Nat.pow_succ] at hm
  have e1 : ((n : Int) % 2 ^ (m + 1)) = ((n % 2 ^ (m + 1) : Nat) : Int) := by simp
  have e2 : ((n : Int) % 2 ^ m) = ((n % 2 ^ m : Nat) : Int) := by simp
  rw [e1, e2, hm]
  have e3 : tb (n : Int) m = decide (n / 2 ^ m % 2 = 1) := by
    unfold tb
    have : (n : Int) / 2 ^ m = ((n / 2 ^ m : Nat) : Int) := by simp
    rw [this]
    congr 1
    simp only [eq_iff_iff]; omega
  rw [e3]
  rcases Nat.mod_two_eq_zero_or_one (n / 2 ^ m) with h | h <;> simp [h] <;> omega
theorem part_run (v from_ : Int) (hv : 0 ≤ v) (hf : 0 ≤ from_) (m : Nat) : ∀ (K : Nat) (n i : Int), i = from_ + m - 1 → i ≤ 62 → m ≤ 30 → 0 ≤ n → n < 2 ^ (30 - m) →
    crierref12_Part.l0 (m + 1 + K) v from_ n i = some (n * 2 ^ m + v / 2 ^ from_.toNat % 2 ^ m) := by
  induction m with
  | zero =>
    intro K n i hi _ _ _ _
    rw [show 0 + 1 + K = K + 1 by omega]
    unfold crierref12_Part.l0
    rw [if_neg (by omega)]; simp
  | succ m ih =>
    intro K n i hi h62 h30 hn hlt
    rw [show m + 1 + 1 + K = (m + 1 + K) + 1 by omega]
    have hpw : (2 : Int) ^ (30 - m) = 2 * 2 ^ (30 - (m + 1)) := by
      rw [show 30 - m = (30 - (m + 1)) + 1 by omega, Int.pow_succ']
    have h2 : (2 : Int) ^ (30 - m) ≤ 2 ^ 30 := by
      have : (2 : Nat) ^ (30 - m) ≤ 2 ^ 30 := Nat.pow_le_pow_right (by decide) (by omega)
      exact_mod_cast this
    have e30 : (2 : Int) ^ 30 = 1073741824 := by decide
    have hi' : i.toNat = from_.toNat + m := by omega
    have hsh : shr .u64 v i = v / 2 ^ (from_.toNat + m) := by
      unfold shr; rw [Nat.min_eq_left (by simp [IntKind.bits]; omega), hi']
    have htop := top_bit (v / 2 ^ from_.toNat) m (Int.ediv_nonneg hv (Int.le_of_lt (Int.pow_pos (by decide))))
    have htb : tb (v / 2 ^ from_.toNat) m = tb v (from_.toNat + m) := tb_div _ _ _
    have hbt := bit_test_u v (from_.toNat + m)
    unfold crierref12_Part.l0
    rw [if_pos (by omega), if_pos (by omega), hsh, w64 (i - 1) (by omega), w64 (n * 2) (by omega)]
    have hmul : ∀ x : Int, (x * 2) * 2 ^ m = x * 2 ^ (m + 1) := fun x => by rw [Int.pow_succ', Int.mul_assoc]
    cases ht : tb v (from_.toNat + m) with
    | true =>
      rw [ht] at hbt
      rw [if_pos (beq_iff_eq.1 hbt), w64 (n * 2 + 1) (by omega), ih K (n * 2 + 1) (i - 1) (by omega) (by omega) (by omega) (by omega) (by omega), htop, htb, ht]
      rw [Int.add_mul, hmul, Int.one_mul]; simp only [if_true]; rw [Int.add_assoc]
    | false =>
      rw [ht] at hbt
      rw [if_neg (by intro h; rw [beq_eq_false_iff_ne] at hbt; exact hbt h), ih K (n * 2) (i - 1) (by omega) (by omega) (by omega) (by omega) (by omega), htop, htb, ht, hmul]
      simp
theorem part_is (v : Int) (hv : 0 ≤ v) (f m : Nat) (h62 : f + m ≤ 63) (h30 : m ≤ 30) (k : Nat) (hk : 40 ≤ k) : crierref12_Part.f k v f ((f : Int) + m - 1) = some (v / 2 ^ f % 2 ^ m) := by
  unfold crierref12_Part.f
  have h2 : (0 : Int) < 2 ^ (30 - m) := Int.pow_pos (by decide)
  have := part_run v f hv (by omega) m (k - (m + 1)) 0 ((f : Int) + m - 1) rfl (by omega) h30 (by omega) h2
  rw [show m + 1 + (k - (m + 1)) = k by omega] at this
  rw [this]; simp
end Go.Proofs.Ytfenchaiflfobaa.Pure
