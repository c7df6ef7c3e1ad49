/- What is cleared does not run, all else does as it did; what is pushed and cleared leads back, if it did not run: for every input. -/
import Derived.Test.YtafmacngboeanaaP1
import Derived.Test.YtafmacngboeanaaClrD
import Derived.Test.YtafmacngboeanaaByte
namespace Go.Proofs.Ytafmacngboeanaa.Pure
open Go.RowKit Go.Proofs.Ytafmacngboeanaa.IAll Go.Proofs.YtafmacngboeanaaW.PrintWords Go.Proofs.YtafmacngboeanaaW.PrintLast

theorem clears_j0 (a b d g p e h q : Int) (ha : W32 a) (hb : W32 b) (same : Bool) (hs : same = false → ¬ (2 * pl q + (h % 2).toNat = 2 * pl p + (g % 2).toNat)) (k : Nat) :
    crierlaw08_LadderClears.j0 (k + 1) true same d g p e h q a b (setA .andNot a g p) (setB .andNot b g p) = some true := by
  have hl := pl_lt p
  have hq := pl_lt q
  have hi : 2 * pl p + (g % 2).toNat < 64 := by omega
  have hj : 2 * pl q + (h % 2).toNat < 64 := by omega
  have hm := clear_bits a b g p
  have hpu := push_bits a b g p
  obtain ⟨wa, wb⟩ := set_w32 .or a b g p ha hb
  obtain ⟨ma, mb⟩ := set_w32 .andNot a b g p ha hb
  obtain ⟨ba, bb⟩ := set_w32 .andNot _ _ g p wa wb
  have hback := rb_ext _ _ _ _ ba bb ma mb (fun i hi' => by
    rw [clear_bits _ _ _ _ i hi', hpu i hi', hm i hi']
    cases rb a b i <;> cases decide (i = 2 * pl p + (g % 2).toNat) <;> rfl)
  have hno : has (setA .andNot a g p) (setB .andNot b g p) g p = false := by rw [has_bits, hm _ hi]; simp
  have hfin : (if has a b g p = true then some true else some (setA .andNot a g p == a && setB .andNot b g p == b)) = some true := by
    cases hh : has a b g p with
    | true => rfl
    | false =>
      rw [has_bits] at hh
      obtain ⟨e1, e2⟩ := rb_ext _ _ a b ma mb ha hb (fun i hi' => by
        rw [hm i hi']
        by_cases e : i = 2 * pl p + (g % 2).toNat
        · rw [e, hh]; rfl
        · rw [decide_eq_false e]; simp)
      rw [e1, e2]; simp
  conv => lhs; unfold crierlaw08_LadderClears.j0
  unfold ladder_Ladder_Push.f ladder_Ladder_Clear.f ladder_Ladder_Has.f
  simp only [Option.bind_some, if_true]
  rw [hno, if_neg (by simp), hback.1, hback.2]
  cases same with
  | true =>
    rw [if_pos rfl, if_pos (by simp)]; exact hfin
  | false =>
    have hne := hs rfl
    have hy : has (setA .andNot a g p) (setB .andNot b g p) h q = has a b h q := by
      rw [has_bits, has_bits, hm _ hj, decide_eq_false hne]; simp
    rw [if_neg (by simp), hy, if_pos (by simp), if_pos (by simp)]; exact hfin

theorem LadderClears (a b d g p e h q : Int) (ha : W32 a) (hb : W32 b) : crierlaw08_LadderClears.f 11 a b d g p e h q = some true := by
  unfold crierlaw08_LadderClears.f
  rw [awake_true 11 (by omega), Option.bind_some, if_pos rfl, show ladder_Of.f [a, b] = some (a, b) from rfl, Option.bind_some, show ladder_Ladder_Clear.f a b g p = some (setA .andNot a g p, setB .andNot b g p) from rfl, Option.bind_some, and_1, and_1]
  by_cases hg : g % 2 = h % 2
  · rw [if_pos hg, and_248, and_248]
    refine clears_j0 a b d g p e h q ha hb _ (fun hf => ?_) 10
    have : ¬ (p % 256 / 8 * 8 = q % 256 / 8 * 8) := by simpa using hf
    unfold pl; omega
  · rw [if_neg hg]
    refine clears_j0 a b d g p e h q ha hb _ (fun _ => ?_) 10
    omega
end Go.Proofs.Ytafmacngboeanaa.Pure
