/- The ladder in plain words: which bits stand, what comes first, what letting go and pushing do. -/

import Derived.Test.YtpjenhojldcmiaaPop
import Derived.Test.YtpjenhojldcmiaaH3
import Derived.Test.YtpjenhojldcmiaaH1
namespace Go.Proofs.Ytpjenhojldcmiaa

theorem rb_even (a b : Int) (k : Nat) : rb a b (2 * k) = tb a k := by rw [rb, if_pos (by omega), show 2 * k / 2 = k by omega]
theorem rb_odd (a b : Int) (k : Nat) : rb a b (2 * k + 1) = tb b k := by rw [rb, if_neg (by omega), show (2 * k + 1) / 2 = k by omega]

theorem least (f : Nat → Bool) (N : Nat) : (∀ i, i < N → f i = false) ∨ ∃ n, n < N ∧ f n = true ∧ ∀ i, i < n → f i = false := by
  induction N with
  | zero => exact .inl (by omega)
  | succ N ih =>
    rcases ih with h | ⟨n, h1, h2, h3⟩
    · cases hf : f N
      · exact .inl fun i hi => by rcases Nat.lt_or_ge i N with h' | h'
                                  · exact h i h'
                                  · rw [show i = N by omega]; exact hf
      · exact .inr ⟨N, by omega, hf, h⟩
    · exact .inr ⟨n, by omega, h2, h3⟩

theorem allUpto_nil (a b : Int) (n : Nat) (h : ∀ i, i < n → rb a b i = false) : allUpto a b n = [] := by
  induction n with
  | zero => rfl
  | succ n ih => rw [allUpto, ih (fun i hi => h i (by omega)), cell, h n (by omega)]; rfl
/-- the first place that stands -/
theorem allL_first (a b : Int) (n : Nat) (hn : n < 64) (h : rb a b n = true) (hl : ∀ i, i < n → rb a b i = false) :
    ∃ post, allL a b = ((8 * (n / 2 : Nat) : Int), ((n % 2 : Nat) : Int)) :: post := by
  obtain ⟨post, hp⟩ := allL_at a b n hn h
  exact ⟨post, by rw [hp, allUpto_nil a b n hl]; rfl⟩
theorem top_first (a b : Int) (n : Nat) (hn : n < 64) (h : rb a b n = true) (hl : ∀ i, i < n → rb a b i = false) : top a b = ((8 * (n / 2 : Nat) : Int), ((n % 2 : Nat) : Int)) := by
  obtain ⟨post, hp⟩ := allL_first a b n hn h hl
  rw [top, hp]; rfl
theorem top_none (a b : Int) (hl : ∀ i, i < 64 → rb a b i = false) : top a b = (255, 0) := by
  rw [top, allL, allUpto_nil a b 64 hl]; rfl
theorem drop_first (a b : Int) (n : Nat) (hn : n < 64) (h : rb a b n = true) (hl : ∀ i, i < n → rb a b i = false) :
    dropA a b = (if n % 2 = 0 then bits .andNot .u32 a (2 ^ (n / 2)) else a) ∧ dropB a b = (if n % 2 = 0 then b else bits .andNot .u32 b (2 ^ (n / 2))) ∧ some? a b = true := by
  obtain ⟨post, hp⟩ := allL_first a b n hn h hl
  have e : ((8 * ((n / 2 : Nat) : Int)) / 8).toNat = n / 2 := by omega
  refine ⟨?_, ?_, ?_⟩
  · rw [dropA, hp]; simp only [e]
    by_cases h2 : n % 2 = 0
    · rw [if_pos h2, if_pos (by omega)]
    · rw [if_neg h2, if_neg (by omega)]
  · rw [dropB, hp]; simp only [e]
    by_cases h2 : n % 2 = 0
    · rw [if_pos h2, if_pos (by omega)]
    · rw [if_neg h2, if_neg (by omega)]
  · rw [some?, hp]; rfl
theorem drop_none (a b : Int) (hl : ∀ i, i < 64 → rb a b i = false) : dropA a b = a ∧ dropB a b = b ∧ some? a b = false := by
  have h : allL a b = [] := by rw [allL, allUpto_nil a b 64 hl]
  refine ⟨?_, ?_, ?_⟩
  · rw [dropA, h]
  · rw [dropB, h]
  · rw [some?, h]; rfl

/-- a word of 32 bits -/
abbrev W32 (x : Int) : Prop := 0 ≤ x ∧ x ≤ 4294967295
theorem w32_bits (op : BinOp) (x y : Int) : W32 (bits op .u32 x y) := bits_u32_in op x y
theorem zero_of_bits (a b : Int) (ha : W32 a) (hb : W32 b) (hl : ∀ i, i < 64 → rb a b i = false) : a = 0 ∧ b = 0 := by
  refine ⟨ext_u32 ha (by decide) fun k hk => ?_, ext_u32 hb (by decide) fun k hk => ?_⟩
  · rw [tb_zero, ← rb_even a b k]; exact hl _ (by omega)
  · rw [tb_zero, ← rb_odd a b k]; exact hl _ (by omega)
theorem pop_zero (n : Nat) : pop 0 n = 0 := by
  induction n with
  | zero => rfl
  | succ n ih => rw [pop, ih, tb_zero]; rfl
theorem pop_congr (x y : Int) : ∀ n : Nat, (∀ k, k < n → tb x k = tb y k) → pop x n = pop y n
  | 0, _ => rfl
  | n + 1, h => by rw [pop, pop, pop_congr x y n (fun k hk => h k (by omega)), h n (by omega)]
/-- one more, one less -/
theorem pop_flip (x y : Int) (j : Nat) : ∀ n : Nat, j < n → (∀ k, k < n → k ≠ j → tb x k = tb y k) → tb x j = true → tb y j = false → pop x n = pop y n + 1
  | 0, h, _, _, _ => absurd h (by omega)
  | n + 1, hj, h, h1, h2 => by
    rw [pop, pop]
    by_cases e : j = n
    · subst e
      rw [pop_congr x y j (fun k hk => h k (by omega) (by omega)), h1, h2]; rfl
    · rw [pop_flip x y j n (by omega) (fun k hk hk' => h k (by omega) hk') h1 h2, h n (by omega) (by omega)]; omega
theorem pop_pos (x : Int) : ∀ n : Nat, pop x n = 0 → ∀ k, k < n → tb x k = false
  | 0, _, k, hk => absurd hk (by omega)
  | n + 1, h, k, hk => by
    rw [pop] at h
    by_cases e : k = n
    · subst e; cases ht : tb x k
      · rfl
      · rw [ht] at h; simp at h
    · exact pop_pos x n (by omega) k (by omega)

/-- letting the first go: the bits behind it -/
theorem drop_bits (a b : Int) (n : Nat) (hn : n < 64) (h : rb a b n = true) (hl : ∀ i, i < n → rb a b i = false) (i : Nat) (hi : i < 64) :
    rb (dropA a b) (dropB a b) i = (rb a b i && decide (i ≠ n)) := by
  obtain ⟨h1, h2, -⟩ := drop_first a b n hn h hl
  rw [h1, h2]
  clear h1 h2 h hl
  have hi2 : i / 2 < 32 := by omega
  unfold rb
  by_cases hp : i % 2 = 0
  · rw [if_pos hp, if_pos hp]
    by_cases hq : n % 2 = 0
    · rw [if_pos hq, tb_andNot_w _ _ _ hi2, tb_two_pow]
      by_cases e : i = n
      · rw [decide_eq_true (show n / 2 = i / 2 by omega), decide_eq_false (show ¬ i ≠ n by omega)]; rfl
      · rw [decide_eq_false (show ¬ n / 2 = i / 2 by omega), decide_eq_true (show i ≠ n from e)]; rfl
    · rw [if_neg hq, decide_eq_true (show i ≠ n by omega), Bool.and_true]
  · rw [if_neg hp, if_neg hp]
    by_cases hq : n % 2 = 0
    · rw [if_pos hq, decide_eq_true (show i ≠ n by omega), Bool.and_true]
    · rw [if_neg hq, tb_andNot_w _ _ _ hi2, tb_two_pow]
      by_cases e : i = n
      · rw [decide_eq_true (show n / 2 = i / 2 by omega), decide_eq_false (show ¬ i ≠ n by omega)]; rfl
      · rw [decide_eq_false (show ¬ n / 2 = i / 2 by omega), decide_eq_true (show i ≠ n from e)]; rfl
theorem drop_w32 (a b : Int) (ha : W32 a) (hb : W32 b) : W32 (dropA a b) ∧ W32 (dropB a b) := by
  rcases least (rb a b) 64 with h | ⟨n, h1, h2, h3⟩
  · obtain ⟨e1, e2, -⟩ := drop_none a b h; rw [e1, e2]; exact ⟨ha, hb⟩
  · obtain ⟨e1, e2, -⟩ := drop_first a b n h1 h2 h3
    rw [e1, e2]
    constructor
    · split
      · exact w32_bits _ _ _
      · exact ha
    · split
      · exact hb
      · exact w32_bits _ _ _
theorem drop_pop (a b : Int) (n : Nat) (hn : n < 64) (h : rb a b n = true) (hl : ∀ i, i < n → rb a b i = false) :
    pop a 32 + pop b 32 = pop (dropA a b) 32 + pop (dropB a b) 32 + 1 := by
  have hd := drop_bits a b n hn h hl
  rcases Nat.mod_two_eq_zero_or_one n with h2 | h2
  · have e := pop_flip a (dropA a b) (n / 2) 32 (by omega) (fun k hk hk' => by
      have := hd (2 * k) (by omega); rw [rb_even, rb_even] at this; rw [this]; simp; intro _; omega)
      (by rw [← rb_even a b, show 2 * (n / 2) = n by omega]; exact h)
      (by have := hd (2 * (n / 2)) (by omega); rw [rb_even] at this; rw [this]; simp; intro _; omega)
    have e2 := pop_congr b (dropB a b) 32 (fun k hk => by have := hd (2 * k + 1) (by omega); rw [rb_odd, rb_odd] at this; rw [this]; simp; intro _; omega)
    omega
  · have e := pop_flip b (dropB a b) (n / 2) 32 (by omega) (fun k hk hk' => by
      have := hd (2 * k + 1) (by omega); rw [rb_odd, rb_odd] at this; rw [this]; simp; intro _; omega)
      (by rw [← rb_odd a b, show 2 * (n / 2) + 1 = n by omega]; exact h)
      (by have := hd (2 * (n / 2) + 1) (by omega); rw [rb_odd] at this; rw [this]; simp; intro _; omega)
    have e2 := pop_congr a (dropA a b) 32 (fun k hk => by have := hd (2 * k) (by omega); rw [rb_even, rb_even] at this; rw [this]; simp; intro _; omega)
    omega

/-- pushing and clearing: the bits -/
theorem push_bits (a b g p : Int) (i : Nat) (hi : i < 64) : rb (setA .or a g p) (setB .or b g p) i = (rb a b i || decide (i = 2 * pl p + (g % 2).toNat)) := by
  unfold setA setB rb
  rcases mod2 g with hg | hg <;> rcases Nat.mod_two_eq_zero_or_one i with h | h <;> simp only [hg, h, if_true, if_false, show ¬ ((1 : Int) = 0) by omega, show ¬ (1 = 0) by omega]
  · rw [tb_or_w _ _ _ (by omega), tb_two_pow]; congr 1; rw [Bool.eq_iff_iff]; simp; omega
  · rw [decide_eq_false (show ¬ (i = 2 * pl p + (0 : Int).toNat) by simp; omega)]; simp
  · rw [decide_eq_false (show ¬ (i = 2 * pl p + (1 : Int).toNat) by simp; omega)]; simp
  · rw [tb_or_w _ _ _ (by omega), tb_two_pow]; congr 1; rw [Bool.eq_iff_iff]; simp; omega
theorem clear_bits (a b g p : Int) (i : Nat) (hi : i < 64) : rb (setA .andNot a g p) (setB .andNot b g p) i = (rb a b i && !decide (i = 2 * pl p + (g % 2).toNat)) := by
  unfold setA setB rb
  rcases mod2 g with hg | hg <;> rcases Nat.mod_two_eq_zero_or_one i with h | h <;> simp only [hg, h, if_true, if_false, show ¬ ((1 : Int) = 0) by omega, show ¬ (1 = 0) by omega]
  · rw [tb_andNot_w _ _ _ (by omega), tb_two_pow]; congr 2; rw [Bool.eq_iff_iff]; simp; omega
  · rw [decide_eq_false (show ¬ (i = 2 * pl p + (0 : Int).toNat) by simp; omega)]; simp
  · rw [decide_eq_false (show ¬ (i = 2 * pl p + (1 : Int).toNat) by simp; omega)]; simp
  · rw [tb_andNot_w _ _ _ (by omega), tb_two_pow]; congr 2; rw [Bool.eq_iff_iff]; simp; omega
theorem set_w32 (op : BinOp) (a b g p : Int) (ha : W32 a) (hb : W32 b) : W32 (setA op a g p) ∧ W32 (setB op b g p) := by
  unfold setA setB
  rcases mod2 g with hg | hg <;> simp only [hg, if_true, if_false, show ¬ ((1 : Int) = 0) by omega]
  · exact ⟨w32_bits _ _ _, hb⟩
  · exact ⟨ha, w32_bits _ _ _⟩
theorem has_bits (a b g p : Int) : has a b g p = rb a b (2 * pl p + (g % 2).toNat) := by
  unfold has
  rcases mod2 g with hg | hg <;> simp only [hg, if_true, if_false, show ¬ ((1 : Int) = 0) by omega]
  · exact (rb_even a b _).symm
  · exact (rb_odd a b _).symm
/-- a ladder is its bits -/
theorem rb_ext (a b a' b' : Int) (ha : W32 a) (hb : W32 b) (ha' : W32 a') (hb' : W32 b') (h : ∀ i, i < 64 → rb a b i = rb a' b' i) : a = a' ∧ b = b' := by
  refine ⟨ext_u32 ha ha' fun k hk => ?_, ext_u32 hb hb' fun k hk => ?_⟩
  · have := h (2 * k) (by omega); rwa [rb_even, rb_even] at this
  · have := h (2 * k + 1) (by omega); rwa [rb_odd, rb_odd] at this
end Go.Proofs.Ytpjenhojldcmiaa
