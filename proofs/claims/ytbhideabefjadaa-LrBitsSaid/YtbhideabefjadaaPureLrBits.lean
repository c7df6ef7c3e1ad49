/- The number of the places of a list of up to 64 has a bit for each, and no other: for every input. -/
import Derived.Test.YtbhideabefjadaaP00
import Derived.Test.YtbhideabefjadaaIAllx10
namespace Go.Proofs.Ytbhideabefjadaa.Pure
open Go.RowKit Go.Proofs.Ytbhideabefjadaa.IAll Go.Proofs.YtbhideabefjadaaW.PrintWords Go.Proofs.YtbhideabefjadaaW.PrintLast Go.Proofs.YtbhideabefjadaaW.PrintMore

theorem shl1 (x : Int) (h0 : 0 ≤ x) (h1 : x < 64) : shl .u64 1 x = 2 ^ x.toNat := by
  have h : ∀ n : Fin 64, shl .u64 1 ((n.val : Nat) : Int) = 2 ^ n.val := by decide +kernel
  obtain ⟨n, rfl⟩ := Int.eq_ofNat_of_zero_le h0
  exact h ⟨n, by omega⟩
theorem tb_bitsOf (ps : List Int) (hp : ∀ x ∈ ps, 0 ≤ x ∧ x < 64) (k : Nat) (hk : k < 64) : tb (bitsOf ps) k = decide ((k : Int) ∈ ps) := by
  have main : ∀ n, ∀ ps : List Int, ps.length = n → (∀ x ∈ ps, 0 ≤ x ∧ x < 64) → tb (bitsOf ps) k = decide ((k : Int) ∈ ps) := by
    intro n
    induction n with
    | zero =>
      intro ps h _
      obtain rfl := List.length_eq_zero_iff.1 h
      simp [bitsOf, tb_zero]
    | succ n ih =>
      intro ps h hp
      obtain ⟨ks', x, rfl⟩ : ∃ ks' k, ps = ks' ++ [k] := ⟨ps.dropLast, ps.getLast (by intro e; subst e; simp at h), (List.dropLast_concat_getLast _).symm⟩
      have hx := hp x (by simp)
      rw [bitsOf_snoc, tb_or_u _ _ _ hk, ih ks' (by simpa using h) (fun y hy => hp y (by simp [hy])), shl1 x hx.1 hx.2, tb_two_pow]
      rw [Bool.eq_iff_iff]
      simp only [Bool.or_eq_true, decide_eq_true_eq, List.mem_append, List.mem_singleton]
      have : (x.toNat = k) ↔ ((k : Int) = x) := by omega
      rw [this]
  exact main ps.length ps rfl hp
theorem bitsOf_bd (ps : List Int) : 0 ≤ bitsOf ps ∧ bitsOf ps ≤ 18446744073709551615 := by
  have main : ∀ n, ∀ ps : List Int, ps.length = n → 0 ≤ bitsOf ps ∧ bitsOf ps ≤ 18446744073709551615 := by
    intro n
    cases n with
    | zero =>
      intro ps h
      obtain rfl := List.length_eq_zero_iff.1 h
      decide
    | succ n =>
      intro ps h
      obtain ⟨ks', x, rfl⟩ : ∃ ks' k, ps = ks' ++ [k] := ⟨ps.dropLast, ps.getLast (by intro e; subst e; simp at h), (List.dropLast_concat_getLast _).symm⟩
      rw [bitsOf_snoc]
      exact bits_u64_in _ _ _
  exact main ps.length ps rfl
theorem pl_has' (p : S24 → Bool) (xs : List S24) (n i : Nat) : (i : Int) ∈ pl p xs n ↔ i < n ∧ p (rd_T24 xs i) = true := by
  constructor
  · intro h
    have := pl_mem p xs n i h
    exact ⟨by omega, this.2.2⟩
  · rintro ⟨hi, h⟩
    induction n with
    | zero => omega
    | succ n ih =>
      rw [pl, List.mem_append]
      by_cases e : i = n
      · subst e; right; rw [if_pos h]; simp
      · left; exact ih (by omega)
/-- the bits of the places -/
theorem tb_places (p : S24 → Bool) (y : List S24) (hy : y.length ≤ 64) (k : Nat) (hk : k < 64) : tb (bitsOf (places p y)) k = (decide (k < y.length) && p (rd_T24 y k)) := by
  rw [tb_bitsOf _ (fun x hx => by have := pl_mem p y y.length x hx; omega) k hk]
  rw [Bool.eq_iff_iff]
  simp only [decide_eq_true_eq, Bool.and_eq_true]
  exact pl_has' p y y.length k
theorem shr_is (v i : Int) (h0 : 0 ≤ i) (h1 : i < 64) : shr .u64 v i = v / 2 ^ i.toNat := by
  unfold shr; rw [Nat.min_eq_left (by simp [IntKind.bits]; omega)]
theorem tb_big (v : Int) (h0 : 0 ≤ v) (h1 : v ≤ 18446744073709551615) (k : Nat) (hk : 64 ≤ k) : tb v k = false := by
  unfold tb
  have e : (2 : Int) ^ 64 ≤ 2 ^ k := by
    have : (2 : Nat) ^ 64 ≤ 2 ^ k := Nat.pow_le_pow_right (by decide) hk
    exact_mod_cast this
  have e2 : (2 : Int) ^ 64 = 18446744073709551616 := by decide
  rw [Int.ediv_eq_zero_of_lt h0 (by omega)]
  decide
/-- behind the list nothing stands -/
theorem shr_zero (p : S24 → Bool) (y : List S24) (hy : y.length ≤ 64) (i : Nat) (hi : i < 64) (hl : y.length ≤ i) : shr .u64 (bitsOf (places p y)) (i : Int) = 0 := by
  rw [shr_is _ _ (by omega) (by omega), Int.toNat_natCast]
  have hb := bitsOf_bd (places p y)
  have hp : (0 : Int) < 2 ^ i := Int.pow_pos (by decide)
  refine ext_u64 ⟨Int.ediv_nonneg hb.1 (Int.le_of_lt hp), Int.le_trans (Int.ediv_le_self _ hb.1) hb.2⟩ ⟨by decide, by decide⟩ fun k hk => ?_
  rw [tb_div, tb_zero]
  by_cases h : i + k < 64
  · rw [tb_places p y hy _ h, decide_eq_false (by omega), Bool.false_and]
  · exact tb_big _ hb.1 hb.2 _ (by omega)
theorem bit_is (p : S24 → Bool) (y : List S24) (hy : y.length ≤ 64) (i : Nat) (hi : i < 64) (hl : i < y.length) : (Go.bits .and .u64 (shr .u64 (bitsOf (places p y)) (i : Int)) 1 == 1) = p (rd_T24 y i) := by
  rw [shr_is _ _ (by omega) (by omega), Int.toNat_natCast, bit_test_u, tb_places p y hy i hi, decide_eq_true hl, Bool.true_and]
theorem free_waits (y : List S24) (hy : y.length ≤ 64) : Go.bits .and .u64 (bitsOf (places pFree y)) (bitsOf (places pWaits y)) = 0 := by
  refine ext_u64 (bits_u64_in _ _ _) ⟨by decide, by decide⟩ fun k hk => ?_
  rw [tb_and_u _ _ _ hk, tb_places _ y hy k hk, tb_places _ y hy k hk, tb_zero]
  unfold pFree pWaits
  by_cases h : (rd_T24 y k).f0 = 0
  · simp [h]
  · simp [h]
theorem done_free (y : List S24) (hy : y.length ≤ 64) : Go.bits .andNot .u64 (bitsOf (places pDone y)) (bitsOf (places pFree y)) = 0 := by
  refine ext_u64 (bits_u64_in _ _ _) ⟨by decide, by decide⟩ fun k hk => ?_
  rw [tb_andNot_u _ _ _ hk, tb_places _ y hy k hk, tb_places _ y hy k hk, tb_zero]
  unfold pFree pDone
  by_cases h : (rd_T24 y k).f0 = 0
  · simp only [h]; cases decide (k < y.length) <;> simp
  · simp [h]
theorem awake_true' (k : Nat) (h : 20 ≤ k) : crierlaw20_awake.f k = some true := by
  have := more_rounds (g := fun k => crierlaw20_awake.f k) crierlaw20_awake.mono 20 (k - 20) _ awake20
  rwa [show 20 + (k - 20) = k by omega] at this
theorem LrBits (l : List S24) (hl : l.length ≤ 9223372036854775807) (a : Int) (h0 : 0 ≤ a) (_h1 : a ≤ 255) : crierlaw20_LrBits.f 20 l a = some true := by
  unfold crierlaw20_LrBits.f
  rw [awake20, Option.bind_some, if_pos rfl]
  have hm : wrap64 (Int.tmod a 64) = a % 64 := by rw [Int.tmod_eq_emod_of_nonneg h0, w64 _ (by omega)]
  rw [hm]
  clear hm
  obtain ⟨i, hi⟩ : ∃ i : Nat, a % 64 = (i : Int) := ⟨(a % 64).toNat, by omega⟩
  have hi64 : i < 64 := by omega
  rw [hi]
  clear hi h0
  have tail : ∀ y : List S24, y.length ≤ 64 → ∀ t1 t2 t3, t1 = bitsOf (places pFree y) → t2 = bitsOf (places pWaits y) → t3 = bitsOf (places pDone y) →
      (y.length ≤ i → shr .u64 t1 (i : Int) = 0 ∧ shr .u64 t2 (i : Int) = 0 ∧ shr .u64 t3 (i : Int) = 0) ∧
      (i < y.length → (Go.bits .and .u64 (shr .u64 t1 (i : Int)) 1 == 1) = ((rd_T24 y i).f0 == 0) ∧ (Go.bits .and .u64 (shr .u64 t2 (i : Int)) 1 == 1) = ((rd_T24 y i).f0 == 1) ∧
        (Go.bits .and .u64 (shr .u64 t3 (i : Int)) 1 == 1) = ((rd_T24 y i).f0 == 0 && ((rd_T24 y i).f6 && !(rd_T24 y i).f4))) ∧
      Go.bits .and .u64 t1 t2 = 0 ∧ Go.bits .andNot .u64 t3 t1 = 0 := by
    rintro y hy t1 t2 t3 rfl rfl rfl
    refine ⟨fun h => ⟨shr_zero _ y hy i hi64 h, shr_zero _ y hy i hi64 h, shr_zero _ y hy i hi64 h⟩, fun h => ⟨bit_is _ y hy i hi64 h, bit_is _ y hy i hi64 h, bit_is _ y hy i hi64 h⟩, free_waits y hy, done_free y hy⟩
  have hi0 : (0 : Int) ≤ (i : Int) := Int.natCast_nonneg i
  by_cases hL : (l.length : Int) > 64
  · have hlt : (l.take 64).length = 64 := by rw [List.length_take]; omega
    rw [if_pos hL, if_pos (by omega), Option.bind_some]
    generalize l.take 64 = y at *
    have hy : y.length ≤ 9223372036854775807 := by omega
    have hT := tail y (by omega) _ _ _ rfl rfl rfl
    unfold lr_Bits_Free.f lr_Bits_Waits.f lr_Bits_Done.f
    simp only [if_pos hy, Option.bind_some]
    generalize bitsOf (places pFree y) = t1 at *
    generalize bitsOf (places pWaits y) = t2 at *
    generalize bitsOf (places pDone y) = t3 at *
    have hlt' : ¬ ((i : Int) ≥ (y.length : Int)) := by omega
    obtain ⟨-, h2, h3, h4⟩ := hT
    obtain ⟨e1, e2, e3⟩ := h2 (by omega)
    rw [if_neg hlt', if_pos hi0, if_pos (by omega), if_pos (by rw [e1]; simp), if_pos (by rw [e2]; simp)]
    rw [e3, h3, h4]
    by_cases f0 : (rd_T24 y (i : Int)).f0 = 0
    · rw [if_pos f0, f0]
      cases (rd_T24 y (i : Int)).f6 <;> simp
    · rw [if_neg f0, beq_eq_false_iff_ne.2 f0]
      simp
  · rw [if_neg hL]
    have hy : l.length ≤ 9223372036854775807 := hl
    have hT := tail l (by omega) _ _ _ rfl rfl rfl
    unfold lr_Bits_Free.f lr_Bits_Waits.f lr_Bits_Done.f
    simp only [if_pos hy, Option.bind_some]
    generalize bitsOf (places pFree l) = t1 at *
    generalize bitsOf (places pWaits l) = t2 at *
    generalize bitsOf (places pDone l) = t3 at *
    obtain ⟨h1, h2, h3, h4⟩ := hT
    by_cases hge : (i : Int) ≥ (l.length : Int)
    · obtain ⟨z1, z2, z3⟩ := h1 (by omega)
      rw [if_pos hge, if_pos hi0, if_pos z1, if_pos z2, z3]; rfl
    · obtain ⟨e1, e2, e3⟩ := h2 (by omega)
      rw [if_neg hge, if_pos hi0, if_pos (by omega), if_pos (by rw [e1]; simp), if_pos (by rw [e2]; simp)]
      rw [e3, h3, h4]
      by_cases f0 : (rd_T24 l (i : Int)).f0 = 0
      · rw [if_pos f0, f0]
        cases (rd_T24 l (i : Int)).f6 <;> simp
      · rw [if_neg f0, beq_eq_false_iff_ne.2 f0]
        simp
theorem lrBits_both (A : Option Addr) (c : Nat) (l : List S24) (a : Int) (w : World) (hr : Kd.C k24 w A l.length l) (hc : l.length ≤ c) (hm : c ≤ maxLen)
    (_ : ∀ p ∈ l, (Lit.int .i64 p.f0).wf = true ∧ (Lit.int .i64 p.f1).wf = true ∧ (Lit.int .i64 p.f2).wf = true ∧ (Lit.int .i64 p.f3).wf = true ∧ (Lit.int .i64 p.f5).wf = true) (ha : (Lit.int .u8 a).wf = true) :
    Calls Try.prog 5 #[.slice A l.length c, .int .u8 a] w fun en w' => en = .returned (.bool true) ∧ Below w.heap.size w w' :=
  crierlaw20_LrBits.calls 20 A c l a true w hr hc (LrBits l (Nat.le_trans hc (Nat.le_trans hm (by unfold maxLen; omega))) a (wf_u8 ha).1 (wf_u8 ha).2) (Aside0.mk rfl)
end Go.Proofs.Ytbhideabefjadaa.Pure
