/- Texts of this claim, put together: Bits. -/
import Derived.WalkKit
namespace Go.Proofs.Ytkbaghblchlcnaa
open Go.RowKit
/-- the bit k of a number, by two's complement -/
def tb (x : Int) (k : Nat) : Bool := decide (x / 2 ^ k % 2 = 1)
theorem toNat_ofInt64 (x : Int) : ((BitVec.ofInt 64 x).toNat : Int) = x % 2 ^ 64 := by
  rw [BitVec.toNat_ofInt]
  have : (0:Int) ≤ x % 2 ^ 64 := Int.emod_nonneg _ (by decide)
  simp only [Nat.reducePow]
  omega
theorem lsb64 (x : Int) (k : Nat) (hk : k < 64) : (BitVec.ofInt 64 x).getLsbD k = tb x k := by
  unfold BitVec.getLsbD tb
  rw [Nat.testBit_eq_decide_div_mod_eq]
  have h1 := toNat_ofInt64 x
  have h2 : (((BitVec.ofInt 64 x).toNat / 2 ^ k % 2 : Nat) : Int) = x / 2 ^ k % 2 := by
    rw [Int.natCast_emod, Int.natCast_ediv, h1]
    have e : (2 : Int) ^ 64 = 2 ^ k * (2 * 2 ^ (63 - k)) := by
      rw [← Int.pow_succ', ← Int.pow_add]; congr 1; omega
    have hp : (2 : Int) ^ k > 0 := Int.pow_pos (by decide)
    have hx : x = 2 ^ k * (2 * 2 ^ (63 - k)) * (x / 2 ^ 64) + x % 2 ^ 64 := by
      rw [← e]; exact (Int.mul_ediv_add_emod x (2 ^ 64)).symm
    have hx2 : x / 2 ^ k = 2 * (2 ^ (63 - k) * (x / 2 ^ 64)) + x % 2 ^ 64 / 2 ^ k := by
      conv => lhs; rw [hx]
      rw [Int.mul_assoc, Int.mul_assoc, Int.mul_add_ediv_left _ _ (by omega)]
    rw [hx2]
    push_cast
    omega
  congr 1
  apply propext
  constructor
  · intro h; rw [← h2, h]; rfl
  · intro h; rw [← h2] at h; omega
theorem wrap_i64_eq (n : Int) : IntKind.i64.wrap n = (n + 9223372036854775808) % 18446744073709551616 - 9223372036854775808 := by
  simp [IntKind.wrap, IntKind.bits, IntKind.signed]
  split <;> omega
theorem wrap_u64_eq (n : Int) : IntKind.u64.wrap n = n % 18446744073709551616 := by simp [IntKind.wrap, IntKind.bits, IntKind.signed]
theorem tb_congr {x y : Int} (h : x % 18446744073709551616 = y % 18446744073709551616) (k : Nat) (hk : k < 64) : tb x k = tb y k := by
  rw [← lsb64 x k hk, ← lsb64 y k hk]
  congr 1
  apply BitVec.eq_of_toNat_eq
  have h1 := toNat_ofInt64 x
  have h2 := toNat_ofInt64 y
  have e : (2:Int)^64 = 18446744073709551616 := by decide
  rw [e] at h1 h2
  omega
theorem tb_ext {x y : Int} (h : ∀ k, k < 64 → tb x k = tb y k) : x % 18446744073709551616 = y % 18446744073709551616 := by
  have hb : BitVec.ofInt 64 x = BitVec.ofInt 64 y := by
    apply BitVec.eq_of_getLsbD_eq
    intro i hi
    rw [lsb64 x i hi, lsb64 y i hi, h i hi]
  have h1 := toNat_ofInt64 x
  have h2 := toNat_ofInt64 y
  rw [hb] at h1
  have e : (2:Int)^64 = 18446744073709551616 := by decide
  rw [e] at h1 h2
  omega
theorem ext_i64 {x y : Int} (hx : -9223372036854775808 ≤ x ∧ x ≤ 9223372036854775807) (hy : -9223372036854775808 ≤ y ∧ y ≤ 9223372036854775807)
    (h : ∀ k, k < 64 → tb x k = tb y k) : x = y := by
  have := tb_ext h; omega
theorem ext_u64 {x y : Int} (hx : 0 ≤ x ∧ x ≤ 18446744073709551615) (hy : 0 ≤ y ∧ y ≤ 18446744073709551615)
    (h : ∀ k, k < 64 → tb x k = tb y k) : x = y := by
  have := tb_ext h; omega
theorem tb_nat (n k : Nat) : tb (n : Int) k = n.testBit k := by
  unfold tb
  rw [Nat.testBit_eq_decide_div_mod_eq]
  congr 1
  apply propext
  have : ((n / 2 ^ k % 2 : Nat) : Int) = (n : Int) / 2 ^ k % 2 := by simp
  omega
theorem tb_bv (b : BitVec 64) (k : Nat) : tb (b.toNat : Int) k = b.getLsbD k := by rw [tb_nat]; rfl
section
variable (x y : Int) (k : Nat) (hk : k < 64)
include hk
theorem tb_and_i : tb (bits .and .i64 x y) k = (tb x k && tb y k) := by
  rw [show bits .and .i64 x y = IntKind.i64.wrap ((BitVec.ofInt 64 x &&& BitVec.ofInt 64 y).toNat : Int) from rfl,
    tb_congr (y := ((BitVec.ofInt 64 x &&& BitVec.ofInt 64 y).toNat : Int)) (by rw [wrap_i64_eq]; omega) k hk, tb_bv, BitVec.getLsbD_and, lsb64 _ _ hk, lsb64 _ _ hk]
theorem tb_and_u : tb (bits .and .u64 x y) k = (tb x k && tb y k) := by
  rw [show bits .and .u64 x y = IntKind.u64.wrap ((BitVec.ofInt 64 x &&& BitVec.ofInt 64 y).toNat : Int) from rfl,
    tb_congr (y := ((BitVec.ofInt 64 x &&& BitVec.ofInt 64 y).toNat : Int)) (by rw [wrap_u64_eq]; omega) k hk, tb_bv, BitVec.getLsbD_and, lsb64 _ _ hk, lsb64 _ _ hk]
theorem tb_or_u : tb (bits .or .u64 x y) k = (tb x k || tb y k) := by
  rw [show bits .or .u64 x y = IntKind.u64.wrap ((BitVec.ofInt 64 x ||| BitVec.ofInt 64 y).toNat : Int) from rfl,
    tb_congr (y := ((BitVec.ofInt 64 x ||| BitVec.ofInt 64 y).toNat : Int)) (by rw [wrap_u64_eq]; omega) k hk, tb_bv, BitVec.getLsbD_or, lsb64 _ _ hk, lsb64 _ _ hk]
end
/-! the same at 32 bits -/
theorem toNat_ofInt32 (x : Int) : ((BitVec.ofInt 32 x).toNat : Int) = x % 2 ^ 32 := by
  rw [BitVec.toNat_ofInt]
  have : (0:Int) ≤ x % 2 ^ 32 := Int.emod_nonneg _ (by decide)
  simp only [Nat.reducePow]
  omega
theorem tb_mod' (x : Int) (j k : Nat) (h : k < j) : tb (x % 2 ^ j) k = tb x k := by
  unfold tb
  congr 1
  have hd : x = 2 ^ j * (x / 2 ^ j) + x % 2 ^ j := (Int.mul_ediv_add_emod x (2 ^ j)).symm
  have e : (2 : Int) ^ j = 2 ^ k * (2 * 2 ^ (j - 1 - k)) := by
    rw [← Int.pow_succ', ← Int.pow_add]; congr 1; omega
  have hp : (2 : Int) ^ k > 0 := Int.pow_pos (by decide)
  have hx2 : x / 2 ^ k = 2 * (2 ^ (j - 1 - k) * (x / 2 ^ j)) + x % 2 ^ j / 2 ^ k := by
    conv => lhs; rw [hd]
    conv => lhs; lhs; lhs; lhs; rw [e]
    rw [Int.mul_assoc, Int.mul_assoc, Int.mul_add_ediv_left _ _ (by omega)]
  rw [hx2]
  simp only [eq_iff_iff]
  omega
theorem lsb32 (x : Int) (k : Nat) (hk : k < 32) : (BitVec.ofInt 32 x).getLsbD k = tb x k := by
  rw [← tb_mod' x 32 k hk, ← toNat_ofInt32, tb_nat]; rfl
theorem wrap_u32_eq (n : Int) : IntKind.u32.wrap n = n % 4294967296 := by simp [IntKind.wrap, IntKind.bits, IntKind.signed]
section
variable (x y : Int) (k : Nat) (hk : k < 32)
include hk
omit hk in
theorem tb_u32 (b : BitVec 32) : tb (IntKind.u32.wrap (b.toNat : Int)) k = b.getLsbD k := by
  have := b.isLt
  rw [wrap_u32_eq, show ((b.toNat : Int)) % 4294967296 = b.toNat by omega, tb_nat]; rfl
theorem tb_and_w : tb (bits .and .u32 x y) k = (tb x k && tb y k) := by
  rw [show bits .and .u32 x y = IntKind.u32.wrap ((BitVec.ofInt 32 x &&& BitVec.ofInt 32 y).toNat : Int) from rfl, tb_u32 _ _, BitVec.getLsbD_and, lsb32 _ _ hk, lsb32 _ _ hk]
theorem tb_or_w : tb (bits .or .u32 x y) k = (tb x k || tb y k) := by
  rw [show bits .or .u32 x y = IntKind.u32.wrap ((BitVec.ofInt 32 x ||| BitVec.ofInt 32 y).toNat : Int) from rfl, tb_u32 _ _, BitVec.getLsbD_or, lsb32 _ _ hk, lsb32 _ _ hk]
theorem tb_andNot_w : tb (bits .andNot .u32 x y) k = (tb x k && !tb y k) := by
  rw [show bits .andNot .u32 x y = IntKind.u32.wrap ((BitVec.ofInt 32 x &&& ~~~ BitVec.ofInt 32 y).toNat : Int) from rfl, tb_u32 _ _, BitVec.getLsbD_and, BitVec.getLsbD_not, lsb32 _ _ hk, lsb32 _ _ hk]
  simp [hk]
end
theorem bits_u32_in (op : BinOp) (x y : Int) : 0 ≤ bits op .u32 x y ∧ bits op .u32 x y ≤ 4294967295 := by
  unfold bits; simp only; rw [wrap_u32_eq]; omega
theorem ext_u32 {x y : Int} (hx : 0 ≤ x ∧ x ≤ 4294967295) (hy : 0 ≤ y ∧ y ≤ 4294967295) (h : ∀ k, k < 32 → tb x k = tb y k) : x = y := by
  have hb : BitVec.ofInt 32 x = BitVec.ofInt 32 y := by
    apply BitVec.eq_of_getLsbD_eq
    intro i hi
    rw [lsb32 x i hi, lsb32 y i hi, h i hi]
  have h1 := toNat_ofInt32 x
  have h2 := toNat_ofInt32 y
  rw [hb] at h1
  have e : (2:Int)^32 = 4294967296 := by decide
  rw [e] at h1 h2
  omega
theorem bits_i64_in (op : BinOp) (x y : Int) : -9223372036854775808 ≤ bits op .i64 x y ∧ bits op .i64 x y ≤ 9223372036854775807 := by
  unfold bits; simp only; rw [wrap_i64_eq]; omega
theorem bits_u64_in (op : BinOp) (x y : Int) : 0 ≤ bits op .u64 x y ∧ bits op .u64 x y ≤ 18446744073709551615 := by
  unfold bits; simp only; rw [wrap_u64_eq]; omega
/-- bits of a power of two less one, of a rest, of a quotient -/
theorem tb_mask (j k : Nat) : tb ((2 : Int) ^ j - 1) k = decide (k < j) := by
  have : ((2 : Int) ^ j - 1) = ((2 ^ j - 1 : Nat) : Int) := by
    rw [Int.natCast_sub (Nat.two_pow_pos j)]; simp
  rw [this, tb_nat, Nat.testBit_two_pow_sub_one]
theorem tb_mod (x : Int) (j k : Nat) : tb (x % 2 ^ j) k = (decide (k < j) && tb x k) := by
  by_cases h : k < j
  · simp only [h, decide_true, Bool.true_and]
    unfold tb
    congr 1
    have hd : x = 2 ^ j * (x / 2 ^ j) + x % 2 ^ j := (Int.mul_ediv_add_emod x (2 ^ j)).symm
    have e : (2 : Int) ^ j = 2 ^ k * (2 * 2 ^ (j - 1 - k)) := by
      rw [← Int.pow_succ', ← Int.pow_add]; congr 1; omega
    have hp : (2 : Int) ^ k > 0 := Int.pow_pos (by decide)
    have hx2 : x / 2 ^ k = 2 * (2 ^ (j - 1 - k) * (x / 2 ^ j)) + x % 2 ^ j / 2 ^ k := by
      conv => lhs; rw [hd]
      conv => lhs; lhs; lhs; lhs; rw [e]
      rw [Int.mul_assoc, Int.mul_assoc, Int.mul_add_ediv_left _ _ (by omega)]
    rw [hx2]
    simp only [eq_iff_iff]
    omega
  · simp only [h, decide_false, Bool.false_and]
    unfold tb
    have hp : (2 : Int) ^ j > 0 := Int.pow_pos (by decide)
    have h1 := Int.emod_nonneg x (show (2 : Int) ^ j ≠ 0 by omega)
    have h2 := Int.emod_lt_of_pos x hp
    have h3 : (2 : Int) ^ j ≤ 2 ^ k := by
      have : (2 : Nat) ^ j ≤ 2 ^ k := Nat.pow_le_pow_right (by decide) (by omega)
      exact_mod_cast this
    rw [Int.ediv_eq_zero_of_lt h1 (by omega)]
    simp
theorem tb_div (x : Int) (j k : Nat) : tb (x / 2 ^ j) k = tb x (j + k) := by
  unfold tb
  rw [Int.ediv_ediv_of_nonneg (Int.le_of_lt (Int.pow_pos (by decide))), ← Int.pow_add]
theorem tb_two_pow (j k : Nat) : tb ((2 : Int) ^ j) k = decide (j = k) := by
  have : ((2 : Int) ^ j) = ((2 ^ j : Nat) : Int) := by simp
  rw [this, tb_nat, Nat.testBit_two_pow]
theorem tb_zero (k : Nat) : tb 0 k = false := by unfold tb; simp
theorem tb_mul (x : Int) (j k : Nat) : tb (x * 2 ^ j) k = (decide (j ≤ k) && tb x (k - j)) := by
  have hp : (2 : Int) ^ j > 0 := Int.pow_pos (by decide)
  by_cases h : j ≤ k
  · simp only [h, decide_true, Bool.true_and]
    unfold tb
    have e : (2 : Int) ^ k = 2 ^ j * 2 ^ (k - j) := by rw [← Int.pow_add]; congr 1; omega
    rw [e, Int.mul_comm x, Int.mul_ediv_mul_of_pos _ _ hp]
  · simp only [h, decide_false, Bool.false_and]
    unfold tb
    have e : (2 : Int) ^ j = 2 ^ k * (2 * 2 ^ (j - 1 - k)) := by
      rw [← Int.pow_succ', ← Int.pow_add]; congr 1; omega
    have hk : (2 : Int) ^ k > 0 := Int.pow_pos (by decide)
    rw [e, Int.mul_comm x, Int.mul_assoc, Int.mul_ediv_cancel_left _ (by omega), Int.mul_assoc]
    simp
/-- the low bits -/
theorem and_low (x : Int) (j : Nat) (hj : j ≤ 62) : bits .and .i64 x (2 ^ j - 1) = x % 2 ^ j := by
  have hp : (0 : Int) < 2 ^ j := Int.pow_pos (by decide)
  have h1 := Int.emod_nonneg x (show (2 : Int) ^ j ≠ 0 by omega)
  have h2 := Int.emod_lt_of_pos x hp
  have h3 : (2 : Int) ^ j ≤ 2 ^ 62 := by
    have : (2 : Nat) ^ j ≤ 2 ^ 62 := Nat.pow_le_pow_right (by decide) (by omega)
    exact_mod_cast this
  refine ext_i64 (bits_i64_in _ _ _) ⟨by omega, by omega⟩ fun k hk => ?_
  rw [tb_and_i _ _ _ hk, tb_mask, tb_mod, Bool.and_comm]
theorem and_low_u (x : Int) (j : Nat) (hj : j ≤ 63) : bits .and .u64 x (2 ^ j - 1) = x % 2 ^ j := by
  have hp : (0 : Int) < 2 ^ j := Int.pow_pos (by decide)
  have h1 := Int.emod_nonneg x (show (2 : Int) ^ j ≠ 0 by omega)
  have h2 := Int.emod_lt_of_pos x hp
  have h3 : (2 : Int) ^ j ≤ 2 ^ 63 := by
    have : (2 : Nat) ^ j ≤ 2 ^ 63 := Nat.pow_le_pow_right (by decide) (by omega)
    exact_mod_cast this
  refine ext_u64 (bits_u64_in _ _ _) ⟨by omega, by omega⟩ fun k hk => ?_
  rw [tb_and_u _ _ _ hk, tb_mask, tb_mod, Bool.and_comm]
theorem and_low_w (x : Int) (j : Nat) (hj : j ≤ 31) : bits .and .u32 x (2 ^ j - 1) = x % 2 ^ j := by
  have hp : (0 : Int) < 2 ^ j := Int.pow_pos (by decide)
  have h1 := Int.emod_nonneg x (show (2 : Int) ^ j ≠ 0 by omega)
  have h2 := Int.emod_lt_of_pos x hp
  have h3 : (2 : Int) ^ j ≤ 2 ^ 31 := by
    have : (2 : Nat) ^ j ≤ 2 ^ 31 := Nat.pow_le_pow_right (by decide) (by omega)
    exact_mod_cast this
  refine ext_u32 (bits_u32_in _ _ _) ⟨by omega, by omega⟩ fun k hk => ?_
  rw [tb_and_w _ _ _ hk, tb_mask, tb_mod, Bool.and_comm]
theorem bit_test_w (x : Int) (k : Nat) : (bits .and .u32 (x / 2 ^ k) 1 == 1) = tb x k := by
  rw [show (1 : Int) = 2 ^ 1 - 1 from rfl, and_low_w _ 1 (by decide)]
  unfold tb
  rw [Bool.eq_iff_iff]; simp
end Go.Proofs.Ytkbaghblchlcnaa
