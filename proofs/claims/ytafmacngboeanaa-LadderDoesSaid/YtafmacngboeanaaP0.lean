/- The ladder in plain words: which bits stand, what comes first, what letting go and pushing do. -/
import Derived.Test.YtafmacngboeanaaHC
import Derived.Test.YtafmacngboeanaaPop
namespace Go.Proofs.Ytafmacngboeanaa
theorem rb_even (a b : Int) (k : Nat) : rb a b (2 * k) = tb a k := by rw [rb, if_pos (by omega), show 2 * k / 2 = k by omega]
theorem rb_odd (a b : Int) (k : Nat) : rb a b (2 * k + 1) = tb b k := by rw [rb, if_neg (by omega), show (2 * k + 1) / 2 = k by omega]
theorem least (f : Nat → Bool) (N : Nat) : (∀ i, i < N → f i = false) ∨ ∃ n, n < N ∧ f n = true ∧ ∀ i, i < n → f i = false := by
  induction N with
  | zero => exact .inl (by omega)
  | succ N ih =>
    rcases ih with h | ⟨n, h1, h2, h3⟩
    · cases hf : f N
      · exact .inl fun i hi => by rcases Nat.lt_or_ge i N with h' | h'
                                  · exact h i h'
                                  · rw [show i = N by omega]; exact hf
      · exact .inr ⟨N, by omega, hf, h⟩
    · exact .inr ⟨n, by omega, h2, h3⟩
theorem allUpto_nil (a b : Int) (n : Nat) (h : ∀ i, i < n → rb a b i = false) : allUpto a b n = [] := by
  induction n with
  | zero => rfl
  | succ n ih => rw [allUpto, ih (fun i hi => h i (by omega)), cell, h n (by omega)]; rfl
/-- the first place that stands -/
theorem allL_first (a b : Int) (n : Nat) (hn : n < 64) (h : rb a b n = true) (hl : ∀ i, i < n → rb a b i = false) :
    ∃ post, allL a b = ((8 * (n / 2 : Nat) : Int), ((n % 2 : Nat) : Int)) :: post := by
  obtain ⟨post, hp⟩ := allL_at a b n hn h
  exact ⟨post, by rw [hp, allUpto_nil a b n hl]; rfl⟩
theorem drop_first (a b : Int) (n : Nat) (hn : n < 64) (h : rb a b n = true) (hl : ∀ i, i < n → rb a b i = false) :
    dropA a b = (if n % 2 = 0 then bits .andNot .u32 a (2 ^ (n / 2)) else a) ∧ dropB a b = (if n % 2 = 0 then b else bits .andNot .u32 b (2 ^ (n / 2))) ∧ some? a b = true := by
  obtain ⟨post, hp⟩ := allL_first a b n hn h hl
  have e : ((8 * ((n / 2 : Nat) : Int)) / 8).toNat = n / 2 := by omega
  refine ⟨?_, ?_, ?_⟩
  · rw [dropA, hp]; simp only [e]
    by_cases h2 : n % 2 = 0
    · rw [if_pos h2, if_pos (by omega)]
    · rw [if_neg h2, if_neg (by omega)]
  · rw [dropB, hp]; simp only [e]
    by_cases h2 : n % 2 = 0
    · rw [if_pos h2, if_pos (by omega)]
    · rw [if_neg h2, if_neg (by omega)]
  · rw [some?, hp]; rfl
theorem drop_none (a b : Int) (hl : ∀ i, i < 64 → rb a b i = false) : dropA a b = a ∧ dropB a b = b ∧ some? a b = false := by
  have h : allL a b = [] := by rw [allL, allUpto_nil a b 64 hl]
  refine ⟨?_, ?_, ?_⟩
  · rw [dropA, h]
  · rw [dropB, h]
  · rw [some?, h]; rfl
/-- a word of 32 bits -/
abbrev W32 (x : Int) : Prop := 0 ≤ x ∧ x ≤ 4294967295
theorem w32_bits (op : BinOp) (x y : Int) : W32 (bits op .u32 x y) := bits_u32_in op x y
theorem drop_w32 (a b : Int) (ha : W32 a) (hb : W32 b) : W32 (dropA a b) ∧ W32 (dropB a b) := by
  rcases least (rb a b) 64 with h | ⟨n, h1, h2, h3⟩
  · obtain ⟨e1, e2, -⟩ := drop_none a b h; rw [e1, e2]; exact ⟨ha, hb⟩
  · obtain ⟨e1, e2, -⟩ := drop_first a b n h1 h2 h3
    rw [e1, e2]
    constructor
    · split
      · exact w32_bits _ _ _
      · exact ha
    · split
      · exact hb
      · exact w32_bits _ _ _
/-- pushing and clearing: the bits -/
theorem push_bits (a b g p : Int) (i : Nat) (hi : i < 64) : rb (setA .or a g p) (setB .or b g p) i = (rb a b i || decide (i = 2 * pl p + (g % 2).toNat)) := by
  unfold setA setB rb
  rcases mod2 g with hg | hg <;> rcases Nat.mod_two_eq_zero_or_one i with h | h <;> simp only [hg, h, if_true, if_false, show ¬ ((1 : Int) = 0) by omega, show ¬ (1 = 0) by omega]
  · rw [tb_or_w _ _ _ (by omega), tb_two_pow]; congr 1; rw [Bool.eq_iff_iff]; simp; omega
  · rw [decide_eq_false (show ¬ (i = 2 * pl p + (0 : Int).toNat) by simp; omega)]; simp
  · rw [decide_eq_false (show ¬ (i = 2 * pl p + (1 : Int).toNat) by simp; omega)]; simp
  · rw [tb_or_w _ _ _ (by omega), tb_two_pow]; congr 1; rw [Bool.eq_iff_iff]; simp; omega
theorem clear_bits (a b g p : Int) (i : Nat) (hi : i < 64) : rb (setA .andNot a g p) (setB .andNot b g p) i = (rb a b i && !decide (i = 2 * pl p + (g % 2).toNat)) := by
  unfold setA setB rb
  rcases mod2 g with hg | hg <;> rcases Nat.mod_two_eq_zero_or_one i with h | h <;> simp only [hg, h, if_true, if_false, show ¬ ((1 : Int) = 0) by omega, show ¬ (1 = 0) by omega]
  · rw [tb_andNot_w _ _ _ (by omega), tb_two_pow]; congr 2; rw [Bool.eq_iff_iff]; simp; omega
  · rw [decide_eq_false (show ¬ (i = 2 * pl p + (0 : Int).toNat) by simp; omega)]; simp
  · rw [decide_eq_false (show ¬ (i = 2 * pl p + (1 : Int).toNat) by simp; omega)]; simp
  · rw [tb_andNot_w _ _ _ (by omega), tb_two_pow]; congr 2; rw [Bool.eq_iff_iff]; simp; omega
theorem set_w32 (op : BinOp) (a b g p : Int) (ha : W32 a) (hb : W32 b) : W32 (setA op a g p) ∧ W32 (setB op b g p) := by
  unfold setA setB
  rcases mod2 g with hg | hg <;> simp only [hg, if_true, if_false, show ¬ ((1 : Int) = 0) by omega]
  · exact ⟨w32_bits _ _ _, hb⟩
  · exact ⟨ha, w32_bits _ _ _⟩
theorem has_bits (a b g p : Int) : has a b g p = rb a b (2 * pl p + (g % 2).toNat) := by
  unfold has
  rcases mod2 g with hg | hg <;> simp only [hg, if_true, if_false, show ¬ ((1 : Int) = 0) by omega]
  · exact (rb_even a b _).symm
  · exact (rb_odd a b _).symm
end Go.Proofs.Ytafmacngboeanaa
