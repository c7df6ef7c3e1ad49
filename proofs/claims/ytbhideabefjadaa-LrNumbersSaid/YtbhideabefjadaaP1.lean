/- What the laws of layer 20 share, in plain words: the number of a list register, and the list register of a number. -/
import Derived.Test.YtbhideabefjadaaP0
import Derived.Test.YtbhideabefjadaaIAllx14
namespace Go.Proofs.Ytbhideabefjadaa.Pure
open Go.RowKit Go.Proofs.Ytbhideabefjadaa.IAll Go.Proofs.YtbhideabefjadaaW.PrintWords Go.Proofs.YtbhideabefjadaaW.PrintLast Go.Proofs.YtbhideabefjadaaW.PrintMore
theorem or_add (a c : Int) (j : Nat) (h0 : 0 ≤ a) (h1 : a < 2 ^ j) (hc : 0 ≤ c) (hs : a + c * 2 ^ j ≤ 18446744073709551615) : Go.bits .or .u64 a (c * 2 ^ j) = a + c * 2 ^ j := by
  have hp : (0 : Int) < 2 ^ j := Int.pow_pos (by decide)
  have hm : 0 ≤ c * 2 ^ j := Int.mul_nonneg hc (Int.le_of_lt hp)
  refine ext_u64 (bits_u64_in _ _ _) ⟨by omega, hs⟩ fun k hk => ?_
  rw [tb_or_u _ _ _ hk]
  obtain ⟨x, rfl⟩ := Int.eq_ofNat_of_zero_le h0
  obtain ⟨y, rfl⟩ := Int.eq_ofNat_of_zero_le hc
  have hx : x < 2 ^ j := by
    have : ((x : Nat) : Int) < ((2 ^ j : Nat) : Int) := by simpa using h1
    exact_mod_cast this
  have e1 : ((y : Int) * 2 ^ j) = ((2 ^ j * y : Nat) : Int) := by simp [Int.mul_comm]
  have e2 : ((x : Int) + ((2 ^ j * y : Nat) : Int)) = ((2 ^ j * y + x : Nat) : Int) := by simp [Int.add_comm]
  rw [e1, e2, tb_nat, tb_nat, tb_nat, Nat.two_pow_add_eq_or_of_lt hx, Nat.testBit_or, Bool.or_comm]
def fl (b : Bool) (n : Int) : Int := if b then n else 0
def E (s n p g : Int) (h : Bool) (m : Int) (t : Bool) : Int := n + m * 4294967296 + fl t 2199023255552 + p * 281474976710656 + g * 1152921504606846976 + fl h 2305843009213693952 + s * 4611686018427387904
theorem flag41 (b : Bool) : lr_flag.f b 41 = some (fl b 2199023255552) := by cases b <;> decide +kernel
theorem flag61 (b : Bool) : lr_flag.f b 61 = some (fl b 2305843009213693952) := by cases b <;> decide +kernel
theorem ok_bd {s n p g : Int} {h : Bool} {m : Int} {t : Bool} (hk : ok s n p g h m t) :
    (0 ≤ s ∧ s ≤ 3 ∧ 0 ≤ n ∧ n < 16384 ∧ 0 ≤ p ∧ p ≤ 255 ∧ 0 ≤ g ∧ g ≤ 1 ∧ 0 ≤ m ∧ m < 1024) ∧ (t = true → m = 0 ∧ h = false) ∧ (h = true ∨ m = 0) := by
  unfold ok at hk
  refine ⟨by omega, fun ht => ?_, hk.2.1.2.2.1⟩
  have h1 := hk.2.1.2.2.2.1
  rw [ht] at h1
  simp at h1
  exact ⟨by have := hk.2.1.2.2.1; rw [h1] at this; simpa using this, h1⟩
theorem enc_is (K : Nat) (s n p g : Int) (h : Bool) (m : Int) (t : Bool) : lr_Encode.f (K + 2) s n p g h m t = some (if ok s n p g h m t then (E s n p g h m t, 0) else (0, 200)) := by
  unfold lr_Encode.f
  rw [may_is, Option.bind_some]
  by_cases hk : ok s n p g h m t
  · rw [if_pos hk, if_pos hk, if_pos rfl, flag41, Option.bind_some, flag61, Option.bind_some]
    obtain ⟨hb, ht, hm⟩ := ok_bd hk
    rw [wu n (by omega), wu m (by omega), wu p (by omega), wu g (by omega), wu s (by omega), wu (m * 4294967296) (by omega), wu (p * 281474976710656) (by omega), wu (g * 1152921504606846976) (by omega), wu (s * 4611686018427387904) (by omega)]
    have a1 : Go.bits .or .u64 n (m * 4294967296) = n + m * 4294967296 := or_add n m 32 (by omega) (by omega) (by omega) (by omega)
    have a2 : Go.bits .or .u64 (n + m * 4294967296) (fl t 2199023255552) = n + m * 4294967296 + fl t 2199023255552 := by
      cases t with
      | true =>
        obtain ⟨hm0, -⟩ := ht rfl
        exact or_add (n + m * 4294967296) 1 41 (by omega) (by omega) (by omega) (by omega)
      | false => exact or_add (n + m * 4294967296) 0 42 (by omega) (by omega) (by omega) (by omega)
    have f2 : 0 ≤ n + m * 4294967296 + fl t 2199023255552 ∧ n + m * 4294967296 + fl t 2199023255552 < 4398046511104 := by
      cases t with
      | true => obtain ⟨hm0, -⟩ := ht rfl; simp only [fl, if_true]; omega
      | false => simp only [fl]; simp; omega
    rw [a1, a2]
    unfold E
    generalize n + m * 4294967296 + fl t 2199023255552 = A at *
    have a3 : Go.bits .or .u64 A (p * 281474976710656) = A + p * 281474976710656 := or_add A p 48 (by omega) (by omega) (by omega) (by omega)
    have a4 : Go.bits .or .u64 (A + p * 281474976710656) (g * 1152921504606846976) = A + p * 281474976710656 + g * 1152921504606846976 := or_add _ g 60 (by omega) (by omega) (by omega) (by omega)
    have a5 : Go.bits .or .u64 (A + p * 281474976710656 + g * 1152921504606846976) (fl h 2305843009213693952) = A + p * 281474976710656 + g * 1152921504606846976 + fl h 2305843009213693952 := by
      cases h with
      | true => exact or_add _ 1 61 (by omega) (by omega) (by omega) (by omega)
      | false => exact or_add _ 0 61 (by omega) (by omega) (by omega) (by omega)
    have f5 : 0 ≤ fl h 2305843009213693952 ∧ fl h 2305843009213693952 ≤ 2305843009213693952 := by cases h <;> simp [fl]
    have a6 : Go.bits .or .u64 (A + p * 281474976710656 + g * 1152921504606846976 + fl h 2305843009213693952) (s * 4611686018427387904) = A + p * 281474976710656 + g * 1152921504606846976 + fl h 2305843009213693952 + s * 4611686018427387904 := or_add _ s 62 (by omega) (by omega) (by omega) (by omega)
    rw [a3, a4, a5, a6]
  · rw [if_neg hk, if_neg hk, if_neg (by decide)]
theorem E_bd {s n p g : Int} {h : Bool} {m : Int} {t : Bool} (hk : ok s n p g h m t) : 0 ≤ E s n p g h m t ∧ E s n p g h m t ≤ 18446744073709551615 := by
  obtain ⟨hb, ht, hm⟩ := ok_bd hk
  unfold E
  cases t with
  | true => obtain ⟨hm0, rfl⟩ := ht rfl; simp only [fl]; simp; omega
  | false => cases h <;> simp only [fl] <;> simp <;> omega
theorem renc_is (K : Nat) (s n p g : Int) (h : Bool) (m : Int) (t : Bool) : crierref20_Encode.f (K + 3) s n p g h m t = some (if ok s n p g h m t then (E s n p g h m t, true) else (0, false)) := by
  unfold crierref20_Encode.f
  rw [rmay_is, Option.bind_some]
  by_cases hk : ok s n p g h m t
  · have hE := E_bd hk
    obtain ⟨hb, ht, hm⟩ := ok_bd hk
    have o1 : ∀ (b : Bool) (x : Int), crierref20_one.f b x = some (fl b x) := by intro b x; cases b <;> rfl
    have f2 : 0 ≤ fl t 2199023255552 ∧ fl t 2199023255552 ≤ 2199023255552 := by cases t <;> simp [fl]
    have f5 : 0 ≤ fl h 2305843009213693952 ∧ fl h 2305843009213693952 ≤ 2305843009213693952 := by cases h <;> simp [fl]
    rw [if_pos hk, if_pos (decide_eq_true hk), o1, Option.bind_some, o1, Option.bind_some]
    unfold E at hE ⊢
    rw [wu n (by omega), wu m (by omega), wu p (by omega), wu g (by omega), wu s (by omega), wu (m * 4294967296) (by omega), wu (p * 281474976710656) (by omega), wu (g * 1152921504606846976) (by omega), wu (s * 4611686018427387904) (by omega)]
    rw [wu (n + m * 4294967296) (by omega), wu (n + m * 4294967296 + fl t 2199023255552) (by omega), wu (n + m * 4294967296 + fl t 2199023255552 + p * 281474976710656) (by omega), wu (n + m * 4294967296 + fl t 2199023255552 + p * 281474976710656 + g * 1152921504606846976) (by omega),
      wu (n + m * 4294967296 + fl t 2199023255552 + p * 281474976710656 + g * 1152921504606846976 + fl h 2305843009213693952) (by omega), wu _ (by omega)]
  · rw [if_neg hk, decide_eq_false hk, if_neg (by simp)]
/-- the list register that a number may be -/
structure L where
  s : Int
  n : Int
  p : Int
  g : Int
  h : Bool
  m : Int
  t : Bool
def hB (v : Int) : Bool := v / 2305843009213693952 % 2 == 1
def D (v : Int) : L := ⟨v / 4611686018427387904, v % 4294967296, v / 281474976710656 % 256, v / 1152921504606846976 % 2, hB v, if hB v = true then v / 4294967296 % 1024 else 0, if hB v = true then false else v / 2199023255552 % 2 == 1⟩
def okL (x : L) : Prop := ok x.s x.n x.p x.g x.h x.m x.t
instance (x : L) : Decidable (okL x) := by unfold okL; infer_instance
def EL (x : L) : Int := E x.s x.n x.p x.g x.h x.m x.t
theorem and32 (x : Int) : Go.bits .and .u64 x 4294967295 = x % 4294967296 := and_low_u x 32 (by decide)
theorem and10 (x : Int) : Go.bits .and .u64 x 1023 = x % 1024 := and_low_u x 10 (by decide)
theorem and8 (x : Int) : Go.bits .and .u64 x 255 = x % 256 := and_low_u x 8 (by decide)
theorem and1 (x : Int) : Go.bits .and .u64 x 1 = x % 2 := and_low_u x 1 (by decide)
theorem dec_is (K : Nat) (v : Int) (h0 : 0 ≤ v) (h1 : v ≤ 18446744073709551615) :
    lr_Decode.f (K + 2) v = some (if okL (D v) ∧ EL (D v) = v then ((D v).s, (D v).n, (D v).p, (D v).g, (D v).h, (D v).m, (D v).t, 0) else (0, 0, 0, 0, false, 0, false, 200)) := by
  unfold lr_Decode.f
  simp only [and32, and10, and8, and1]
  rw [w64 (v / 4611686018427387904) (by omega), w64 (v % 4294967296) (by omega), w64 (v / 281474976710656 % 256) (by omega), w64 (v / 1152921504606846976 % 2) (by omega), w64 (v / 4294967296 % 1024) (by omega)]
  by_cases hh : v / 2305843009213693952 % 2 = 1
  · have hb : hB v = true := beq_iff_eq.2 hh
    rw [if_pos hh]
    unfold okL EL D
    simp only [hb, if_true, enc_is, Option.bind_some]
    generalize v / 4611686018427387904 = s
    generalize v % 4294967296 = n
    generalize v / 281474976710656 % 256 = p
    generalize v / 1152921504606846976 % 2 = g
    generalize v / 4294967296 % 1024 = m
    by_cases hk : ok s n p g true m false
    · simp only [hk, if_true, true_and]
      by_cases he : E s n p g true m false = v
      · rw [if_pos he, if_pos he]
      · rw [if_neg he, if_neg he]
    · simp only [hk, if_false, false_and]
      rw [if_neg (by decide)]
  · have hb : hB v = false := beq_eq_false_iff_ne.2 hh
    rw [if_neg hh]
    unfold okL EL D
    simp only [hb, Bool.false_eq_true, if_false, enc_is, Option.bind_some]
    generalize v / 4611686018427387904 = s
    generalize v % 4294967296 = n
    generalize v / 281474976710656 % 256 = p
    generalize v / 1152921504606846976 % 2 = g
    generalize (v / 2199023255552 % 2 == 1) = t
    by_cases hk : ok s n p g false 0 t
    · simp only [hk, if_true, true_and]
      by_cases he : E s n p g false 0 t = v
      · rw [if_pos he, if_pos he]
      · rw [if_neg he, if_neg he]
    · simp only [hk, if_false, false_and]
      rw [if_neg (by decide)]
end Go.Proofs.Ytbhideabefjadaa.Pure
