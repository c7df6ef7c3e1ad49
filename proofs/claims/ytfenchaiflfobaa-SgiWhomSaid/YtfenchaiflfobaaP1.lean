/- The list of those that are called: its elements, its order, its length; and the spread of a call. -/
import Derived.Test.YtfenchaiflfobaaP0
import Derived.Test.YtfenchaiflfobaaOnes
namespace Go.Proofs.Ytfenchaiflfobaa.Pure
open Go.RowKit Go.Proofs.Ytfenchaiflfobaa.IAll Go.Proofs.YtfenchaiflfobaaW.PrintWords Go.Proofs.YtfenchaiflfobaaW.PrintLast Go.Proofs.YtfenchaiflfobaaW.PrintMore

theorem mem_toUpto (all odd : Bool) (t from_ x : Int) (n : Nat) : x ∈ toUpto all odd t from_ n ↔ ∃ k : Nat, k < n ∧ called all odd t from_ k = true ∧ x = (k : Int) := by
  induction n with
  | zero => simp [toUpto]
  | succ n ih =>
    rw [toUpto, List.mem_append, ih]
    constructor
    · rintro (⟨k, h1, h2, h3⟩ | h)
      · exact ⟨k, by omega, h2, h3⟩
      · split at h
        · next hc => exact ⟨n, by omega, hc, by simpa using h⟩
        · simp at h
    · rintro ⟨k, h1, h2, h3⟩
      by_cases e : k = n
      · subst e; right; rw [if_pos h2]; simp [h3]
      · exact .inl ⟨k, by omega, h2, h3⟩
theorem toUpto_sorted (all odd : Bool) (t from_ : Int) (n : Nat) : (toUpto all odd t from_ n).Pairwise (· < ·) := by
  induction n with
  | zero => exact List.Pairwise.nil
  | succ n ih =>
    rw [toUpto, List.pairwise_append]
    refine ⟨ih, by split <;> simp, fun x hx y hy => ?_⟩
    obtain ⟨k, h1, -, h3⟩ := (mem_toUpto all odd t from_ x n).1 hx
    split at hy
    · simp at hy; omega
    · simp at hy
theorem toUpto_all (odd : Bool) (t from_ : Int) (n : Nat) : ((toUpto true odd t from_ n).length : Int) = n - (if 0 ≤ from_ ∧ from_ < n then 1 else 0) := by
  induction n with
  | zero => simp [toUpto]; omega
  | succ n ih =>
    rw [toUpto, List.length_append]
    by_cases h : (n : Int) = from_
    · rw [if_neg (by simp [called, h])]; simp at ih ⊢; omega
    · rw [if_pos (by simp [called, h])]; simp at ih ⊢; omega
theorem toUpto_some (t from_ : Int) (n : Nat) : (toUpto false false t from_ n).length = pop t n := by
  induction n with
  | zero => rfl
  | succ n ih =>
    rw [toUpto, List.length_append, ih, pop]
    cases h : tb t n <;> simp [called, h]
theorem toUpto_le (odd : Bool) (t from_ : Int) (n : Nat) : (toUpto false odd t from_ n).length ≤ pop t n := by
  cases odd with
  | false => exact Nat.le_of_eq (toUpto_some t from_ n)
  | true =>
    induction n with
    | zero => exact Nat.le_refl _
    | succ n ih => rw [toUpto, if_neg (by simp [called]), List.append_nil, pop]; omega
theorem spread_is (id : Int) (all : Bool) (t : Int) (odd : Bool) : sgi_Spread.f id all t odd = some ((pop t 16 : Nat) : Int) := by
  unfold sgi_Spread.f bits_OnesCount.f
  have e : Go.bits .and .u64 (IntKind.u64.wrap t) 65535 = t % 65536 := by
    rw [show (65535 : Int) = 2 ^ 16 - 1 by decide, and_low_u _ 16 (by decide), wrap_u64_eq, show (2 : Int) ^ 16 = 65536 by decide]; omega
  rw [e, ones_is (t % 65536) (by omega) (by omega), Option.bind_some, Option.bind_some]
  congr 2
  exact pop_congr _ _ 16 (fun k hk => by rw [show (65536 : Int) = 2 ^ 16 by decide, tb_mod]; simp [hk])
theorem mx_is (cores : Int) : mx 0 (mn cores 8) = (cnt cores : Int) := by unfold mx mn cnt; split <;> split <;> omega
end Go.Proofs.Ytfenchaiflfobaa.Pure
