/- Pushing and letting go, in bits and in bounds. Generic text (layers 14, 21). -/
import Derived.Test.YtpjenhojldcmiaaRef8b
namespace Go.Proofs.Ytpjenhojldcmiaa
open Go.RowKit
abbrev U32 (x : Int) : Prop := 0 ≤ x ∧ x ≤ 4294967295
theorem push_bitsL (a b g p : Int) (i : Nat) (hi : i < 64) : rb (setA .or a g p) (setB .or b g p) i = if i = spot g p then true else rb a b i := by
  unfold setA setB rb spot
  rcases mod2 g with hg | hg <;> rcases Nat.mod_two_eq_zero_or_one i with h | h <;> simp only [hg, h, if_true, if_false, show ¬ ((1 : Int) = 0) by omega, show ¬ (1 = 0) by omega]
  · rw [tb_or_w _ _ _ (by omega), tb_two_pow]
    by_cases e : pl p = i / 2
    · rw [if_pos (by simp; omega), decide_eq_true e, Bool.or_true]
    · rw [if_neg (by simp; omega), decide_eq_false e, Bool.or_false]
  · rw [if_neg (by simp; omega)]
  · rw [if_neg (by simp; omega)]
  · rw [tb_or_w _ _ _ (by omega), tb_two_pow]
    by_cases e : pl p = i / 2
    · rw [if_pos (by simp; omega), decide_eq_true e, Bool.or_true]
    · rw [if_neg (by simp; omega), decide_eq_false e, Bool.or_false]
theorem setA_u32 (op : BinOp) (a g p : Int) (ha : U32 a) : U32 (setA op a g p) := by
  unfold setA; split
  · exact bits_u32_in _ _ _
  · exact ha
theorem setB_u32 (op : BinOp) (b g p : Int) (hb : U32 b) : U32 (setB op b g p) := by
  unfold setB; split
  · exact hb
  · exact bits_u32_in _ _ _
theorem dropA_u32 (a b : Int) (ha : U32 a) : U32 (dropA a b) := by
  unfold dropA; split
  · exact ha
  · split
    · exact bits_u32_in _ _ _
    · exact ha
theorem dropB_u32 (a b : Int) (hb : U32 b) : U32 (dropB a b) := by
  unfold dropB; split
  · exact hb
  · split
    · exact hb
    · exact bits_u32_in _ _ _
theorem Lb_push (a b g p : Int) : Lb (fun j => if j = spot g p then true else rb a b j) = Lb (rb (setA .or a g p) (setB .or b g p)) := Lb_ext fun i hi => (push_bitsL a b g p i hi).symm
end Go.Proofs.Ytpjenhojldcmiaa
