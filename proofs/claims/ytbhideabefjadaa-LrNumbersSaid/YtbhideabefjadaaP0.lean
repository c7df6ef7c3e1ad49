/- What the laws of layer 20 share, in plain words: which list registers may be, their numbers, and the list register of a number. -/
import Derived.Test.YtbhideabefjadaaP00
import Derived.Test.YtbhideabefjadaaIAllx12
import Derived.Test.YtbhideabefjadaaIAllx13
namespace Go.Proofs.Ytbhideabefjadaa.Pure
open Go.RowKit Go.Proofs.Ytbhideabefjadaa.IAll Go.Proofs.YtbhideabefjadaaW.PrintWords Go.Proofs.YtbhideabefjadaaW.PrintLast Go.Proofs.YtbhideabefjadaaW.PrintMore
/-- may it be? -/
def ok (s n p g : Int) (h : Bool) (m : Int) (t : Bool) : Prop :=
  (0 ≤ s ∧ s ≤ 3 ∧ 0 ≤ n ∧ n < 16384 ∧ 0 ≤ p ∧ p ≤ 255 ∧ (g = 0 ∨ g = 1)) ∧ (0 ≤ m ∧ m < 1024 ∧ (h = true ∨ m = 0) ∧ (h = false ∨ t = false) ∧ p % 8 = 0) ∧ (n < 8192 ∨ (s < 2 ∧ h = false)) ∧ (n < 1020 ∨ 8192 ≤ n)
instance (s n p g : Int) (h : Bool) (m : Int) (t : Bool) : Decidable (ok s n p g h m t) := by unfold ok; infer_instance
theorem j1_is (K : Nat) (x3 : Bool) (s n p g : Int) (h : Bool) (m : Int) (t : Bool) :
    lr_May.j1 (K + 1) x3 s n p g h m t = some (if x3 = true ∧ (n < 8192 ∨ (s < 2 ∧ h = false)) ∧ (n < 1020 ∨ 8192 ≤ n) then 0 else 200) := by
  rw [lr_May.j1]
  grind
theorem real_is (p : Int) : prio_Real.f p = some (p % 256 / 8 * 8) := by unfold prio_Real.f; rw [and_248]
theorem j0_is (K : Nat) (x3 : Bool) (s n p g : Int) (h : Bool) (m : Int) (t : Bool) (hp : x3 = true → 0 ≤ p ∧ p ≤ 255) :
    lr_May.j0 (K + 2) x3 s n p g h m t = lr_May.j1 (K + 1) (x3 && decide (0 ≤ m ∧ m < 1024 ∧ (h = true ∨ m = 0) ∧ (h = false ∨ t = false) ∧ p % 8 = 0)) s n p g h m t := by
  rw [lr_May.j0]
  cases x3 with
  | false => simp
  | true =>
    have hp' := hp rfl
    have hb : (p == p % 256 / 8 * 8) = decide (p % 8 = 0) := by rw [Bool.eq_iff_iff]; simp; omega
    simp only [real_is, Option.bind_some, hb, if_true, Bool.true_and]
    by_cases c1 : 0 ≤ m
    · by_cases c2 : m < 1024
      · by_cases c3 : m = 0
        · cases h <;> cases t <;> simp [c3]
        · cases h <;> cases t <;> simp [c1, c2, c3]
      · simp [c2]
    · simp [c1]
theorem may_is (K : Nat) (s n p g : Int) (h : Bool) (m : Int) (t : Bool) : lr_May.f (K + 2) s n p g h m t = some (if ok s n p g h m t then 0 else 200) := by
  have main : ∀ x3 : Bool, (x3 = true ↔ (0 ≤ s ∧ s ≤ 3 ∧ 0 ≤ n ∧ n < 16384 ∧ 0 ≤ p ∧ p ≤ 255 ∧ (g = 0 ∨ g = 1))) → lr_May.j0 (K + 2) x3 s n p g h m t = some (if ok s n p g h m t then 0 else 200) := by
    intro x3 hx
    rw [j0_is K x3 s n p g h m t (fun e => by have := hx.1 e; omega), j1_is]
    congr 1
    unfold ok
    simp only [Bool.and_eq_true, decide_eq_true_eq, hx, and_assoc]
  generalize (some (if ok s n p g h m t then 0 else 200) : Option Int) = R at *
  unfold lr_May.f
  grind
def tB (s n : Int) (h : Bool) : Bool := decide (0 ≤ n ∧ n < 16384 ∧ (n < 8192 ∨ (s < 2 ∧ h = false)) ∧ (n < 1020 ∨ 8192 ≤ n))
def mB (m : Int) (h : Bool) : Bool := decide (0 ≤ m ∧ m < 1024 ∧ (h = true ∨ m = 0))
def pB (p : Int) : Bool := decide (0 ≤ p ∧ p ≤ 255 ∧ p % 8 = 0)
theorem rj2_is (K : Nat) (x : Bool) (s n p g : Int) (h : Bool) (m : Int) (t : Bool) :
    crierref20_May.j2 (K + 1) x s n p g h m t = some (!x && tB s n h) := by
  rw [crierref20_May.j2]
  unfold tB
  cases x <;> cases h <;> simp only [Bool.not_true, Bool.not_false, Bool.true_and, Bool.false_and] <;> grind
theorem tmod8 (p : Int) (h : 0 ≤ p) : Int.tmod p 8 = p % 8 := Int.tmod_eq_emod_of_nonneg h
theorem rj1_is (K : Nat) (x : Bool) (s n p g : Int) (h : Bool) (m : Int) (t : Bool) :
    crierref20_May.j1 (K + 2) x s n p g h m t = some (!x && (mB m h && tB s n h)) := by
  rw [show K + 2 = (K + 1) + 1 from rfl, crierref20_May.j1]
  simp only [rj2_is]
  generalize tB s n h = T
  unfold mB
  cases x <;> cases h <;> cases T <;> simp <;> grind
theorem rj0_is (K : Nat) (x : Bool) (s n p g : Int) (h : Bool) (m : Int) (t : Bool) :
    crierref20_May.j0 (K + 3) x s n p g h m t = some (!x && (pB p && (mB m h && tB s n h))) := by
  rw [show K + 3 = (K + 2) + 1 from rfl, crierref20_May.j0]
  simp only [rj1_is]
  generalize (mB m h && tB s n h) = T
  unfold pB
  by_cases hp : 0 ≤ p
  · rw [tmod8 p hp]
    cases x <;> cases T <;> simp <;> grind
  · cases x <;> cases T <;> simp <;> grind
theorem ok_parts (s n p g : Int) (h : Bool) (m : Int) (t : Bool) : decide (ok s n p g h m t) = (decide (0 ≤ s ∧ s ≤ 3 ∧ (g = 0 ∨ g = 1)) && (!(h && t) && (pB p && (mB m h && tB s n h)))) := by
  unfold pB mB tB ok
  rw [Bool.eq_iff_iff]
  cases h <;> cases t <;> simp only [Bool.and_eq_true, decide_eq_true_eq, Bool.not_eq_true', Bool.and_false, Bool.and_true, Bool.true_eq_false, Bool.false_eq_true, false_and, and_false, or_false, or_true, true_or, false_or, true_and, and_true] <;> grind
theorem rmay_is (K : Nat) (s n p g : Int) (h : Bool) (m : Int) (t : Bool) : crierref20_May.f (K + 3) s n p g h m t = some (decide (ok s n p g h m t)) := by
  rw [ok_parts]
  unfold crierref20_May.f
  simp only [rj0_is]
  generalize (pB p && (mB m h && tB s n h)) = T
  cases h <;> cases t <;> cases T <;> simp <;> grind
end Go.Proofs.Ytbhideabefjadaa.Pure
