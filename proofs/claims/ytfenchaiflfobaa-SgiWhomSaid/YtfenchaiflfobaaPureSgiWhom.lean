/- A call that is made for some processors reaches just these, of as many as there may be: for every input. -/
import Derived.Test.YtfenchaiflfobaaP1
import Derived.Test.YtfenchaiflfobaaIAllx14
namespace Go.Proofs.Ytfenchaiflfobaa.Pure
open Go.RowKit Go.Proofs.Ytfenchaiflfobaa.IAll Go.Proofs.YtfenchaiflfobaaW.PrintWords Go.Proofs.YtfenchaiflfobaaW.PrintLast Go.Proofs.YtfenchaiflfobaaW.PrintMore

theorem has_run (xs : List Int) (x : Int) (hn : xs.length ≤ 9223372036854775806) (m : Nat) : ∀ (K i : Nat), i + m = xs.length → crierref01_Has.l0 (m + 1 + K) xs x (i : Int) = some (decide (x ∈ xs.drop i)) := by
  induction m with
  | zero =>
    intro K i hi
    rw [show 0 + 1 + K = K + 1 by omega]
    unfold crierref01_Has.l0
    rw [if_neg (by omega), List.drop_eq_nil_of_le (by omega)]; simp
  | succ m ih =>
    intro K i hi
    rw [show m + 1 + 1 + K = (m + 1 + K) + 1 by omega]
    have hrec := ih K (i + 1) (by omega)
    unfold crierref01_Has.l0
    rw [if_pos (by omega), if_pos (by omega), rd_eq xs i (by omega), List.drop_eq_getElem_cons (by omega)]
    by_cases h : xs[i]'(by omega) = x
    · rw [if_pos h, decide_eq_true (by rw [← h]; exact List.mem_cons_self ..)]
    · rw [if_neg h, w64 _ (by omega), show ((i : Int) + 1) = ((i + 1 : Nat) : Int) by omega, hrec]
      congr 1
      rw [decide_eq_decide]
      exact ⟨fun hm => List.mem_cons_of_mem _ hm, fun hm => (List.mem_cons.1 hm).resolve_left (fun e => h e.symm)⟩
theorem has_is (xs : List Int) (x : Int) (hn : xs.length ≤ 9223372036854775806) (k : Nat) (hk : xs.length + 1 ≤ k) : crierref01_Has.f k xs x = some (decide (x ∈ xs)) := by
  unfold crierref01_Has.f
  have := has_run xs x hn xs.length (k - (xs.length + 1)) 0 (by omega)
  rw [show xs.length + 1 + (k - (xs.length + 1)) = k by omega] at this
  exact this

/-- may a processor's number be? -/
def okc (x : Int) : Bool := decide (0 ≤ x) && decide (x < 8)
def Bits (T : Int) (ys : List Int) : Prop := ∀ k : Nat, k < 64 → (tb T k = true ↔ (k : Int) ∈ ys)

/-- what is made of the numbers -/
theorem whom_run (id : Int) (xs : List Int) (hn : xs.length ≤ 9223372036854775806) (m : Nat) :
    ∀ (K i : Nat) (T : Int), i + m = xs.length → (∀ x ∈ xs.take i, okc x = true) → Bits T (xs.take i) →
    (if xs.all okc then (if id < 0 ∨ id > 15 then sgi_Whom.l0 (m + 1 + K) id xs (xs.length : Int) (i : Int) id false T false = some (0, false, 0, false, 1)
      else ∃ T', Bits T' xs ∧ sgi_Whom.l0 (m + 1 + K) id xs (xs.length : Int) (i : Int) id false T false = some (id, false, T', false, 0))
    else sgi_Whom.l0 (m + 1 + K) id xs (xs.length : Int) (i : Int) id false T false = some (0, false, 0, false, 130)) := by
  induction m with
  | zero =>
    intro K i T hi hok hT
    rw [show 0 + 1 + K = K + 1 by omega]
    unfold sgi_Whom.l0
    rw [show i = xs.length by omega, List.take_length] at hok hT
    rw [if_pos (by rw [List.all_eq_true]; exact hok)]
    have e : ¬ ((i : Int) < (xs.length : Int)) := by omega
    rw [if_neg e]
    by_cases h1 : id < 0
    · rw [if_pos (.inl h1), if_pos h1]
    · rw [if_neg h1]
      by_cases h2 : id > 15
      · rw [if_pos (.inr h2), if_pos h2]
      · rw [if_neg (by omega), if_neg h2]
        exact ⟨T, hT, rfl⟩
  | succ m ih =>
    intro K i T hi hok hT
    rw [show m + 1 + 1 + K = (m + 1 + K) + 1 by omega]
    have hilt : i < xs.length := by omega
    have hx := rd_eq xs i hilt
    unfold sgi_Whom.l0
    rw [if_pos (show (i : Int) < (xs.length : Int) by omega), if_pos (show (0 : Int) ≤ (i : Int) by omega), if_pos (show (i : Int) < (xs.length : Int) by omega)]
    have hmem : xs[i] ∈ xs := List.getElem_mem hilt
    by_cases h1 : rd xs (i : Int) < 0
    · rw [if_pos h1]
      rw [if_neg (by rw [List.all_eq_true]; intro h; have := h _ hmem; rw [← hx] at this; simp [okc] at this; omega)]
    · rw [if_neg h1]
      by_cases h2 : rd xs (i : Int) ≥ 8
      · rw [if_pos h2]
        rw [if_neg (by rw [List.all_eq_true]; intro h; have := h _ hmem; rw [← hx] at this; simp [okc] at this; omega)]
      · rw [if_neg h2, if_pos (show 0 ≤ rd xs (i : Int) by omega), w64 ((i : Int) + 1) (by omega)]
        obtain ⟨c, hc, hc8⟩ : ∃ c : Nat, rd xs (i : Int) = (c : Int) ∧ c < 8 := ⟨(rd xs (i : Int)).toNat, by omega, by omega⟩
        have htk : xs.take (i + 1) = xs.take i ++ [(c : Int)] := by
          rw [List.take_add_one, List.getElem?_eq_getElem hilt, ← hc, hx]; rfl
        have hshl : shl .i64 1 (rd xs (i : Int)) = 2 ^ c := by
          have h2p : (2 : Int) ^ c ≤ 128 := by
            have : (2 : Nat) ^ c ≤ 2 ^ 7 := Nat.pow_le_pow_right (by decide) (by omega)
            exact_mod_cast this
          have h2q : (0 : Int) < 2 ^ c := Int.pow_pos (by decide)
          unfold shl
          rw [hc, Nat.min_eq_left (by simp [IntKind.bits]; omega), Int.one_mul, wrap_i64_eq]
          simp only [Int.toNat_natCast]
          omega
        have := ih K (i + 1) (Go.bits .or .i64 T (shl .i64 1 (rd xs (i : Int)))) (by omega) (by
          intro x hxm
          rw [htk, List.mem_append] at hxm
          rcases hxm with h | h
          · exact hok x h
          · simp at h; subst h; simp [okc]; omega) (by
          intro k hk
          rw [hshl, tb_or_i _ _ _ hk, tb_two_pow, htk, List.mem_append, Bool.or_eq_true, hT k hk]
          simp only [decide_eq_true_eq, List.mem_singleton]
          constructor <;> rintro (h | h) <;> first | exact .inl h | exact .inr (by omega))
        rw [show (((i + 1 : Nat)) : Int) = (i : Int) + 1 by omega] at this
        exact this

theorem l2_run (id : Int) (cs l : List Int) (T : Int) (hn : cs.length ≤ 9223372036854775806) (hl : l.length ≤ 8) (hsub : ∀ x ∈ cs, x ∈ l) (hsp : pop T 16 = l.length) (m : Nat) :
    ∀ (K i : Nat), i + m = cs.length → crierlaw12_SgiWhom.l2 (m + 1 + (K + 20)) id cs true 0 l (i : Int) id false T false = some true := by
  induction m with
  | zero =>
    intro K i hi
    rw [show 0 + 1 + (K + 20) = (K + 20) + 1 by omega]
    unfold crierlaw12_SgiWhom.l2
    rw [if_neg (by omega), if_pos rfl, if_pos rfl, if_pos rfl, spread_is, Option.bind_some, hsp]; simp
  | succ m ih =>
    intro K i hi
    rw [show m + 1 + 1 + (K + 20) = (m + 1 + (K + 20)) + 1 by omega]
    have hrec := ih K (i + 1) (by omega)
    unfold crierlaw12_SgiWhom.l2
    rw [if_pos (by omega), if_pos (by omega), rd_eq _ i (by omega), has_is l _ (by omega) _ (by omega), Option.bind_some, decide_eq_true (hsub _ (List.getElem_mem _)), if_pos rfl, w64 _ (by omega)]
    exact_mod_cast hrec
theorem l1_run (id : Int) (cs l : List Int) (T : Int) (hn : cs.length ≤ 9223372036854775806) (hl : l.length ≤ 8) (hsup : ∀ x ∈ l, x ∈ cs) (hsub : ∀ x ∈ cs, x ∈ l) (hsp : pop T 16 = l.length) (m : Nat) :
    ∀ (i : Nat) (K : Nat), i + m = l.length → crierlaw12_SgiWhom.l1 (m + 1 + (cs.length + 1 + (K + 20))) id cs true 0 l (i : Int) id false T false = some true := by
  induction m with
  | zero =>
    intro i K hi
    rw [show 0 + 1 + (cs.length + 1 + (K + 20)) = (cs.length + 1 + (K + 20)) + 1 by omega]
    unfold crierlaw12_SgiWhom.l1
    rw [if_neg (by omega)]
    exact l2_run id cs l T hn hl hsub hsp cs.length K 0 (by omega)
  | succ m ih =>
    intro i K hi
    rw [show m + 1 + 1 + (cs.length + 1 + (K + 20)) = (m + 1 + (cs.length + 1 + (K + 20))) + 1 by omega]
    have hrec := ih (i + 1) K (by omega)
    unfold crierlaw12_SgiWhom.l1
    rw [if_pos (by omega), if_pos (by omega), rd_eq _ i (by omega), has_is cs _ hn _ (by omega), Option.bind_some, decide_eq_true (hsup _ (List.getElem_mem _)), if_pos rfl, w64 _ (by omega)]
    exact_mod_cast hrec

/-- the law's own look at the numbers -/
theorem l0_run (id : Int) (xs : List Int) (from_ e : Int) (a c : Int) (p q : Bool) (hn : xs.length ≤ 9223372036854775806) (m : Nat) :
    ∀ (K i : Nat) (ok : Bool), i + m = xs.length → ok = (xs.take i).all okc →
    crierlaw12_SgiWhom.l0 (m + 1 + (K + 1)) id xs from_ true e ok (i : Int) a p c q = crierlaw12_SgiWhom.j1 (K + 1) id xs from_ true e (xs.all okc) (if xs.all okc then decide (id < 0 ∨ id > 15) else true) a p c q := by
  induction m with
  | zero =>
    intro K i ok hi hok
    rw [show 0 + 1 + (K + 1) = (K + 1) + 1 by omega]
    rw [show i = xs.length by omega, List.take_length] at hok
    subst hok
    conv => lhs; unfold crierlaw12_SgiWhom.l0
    rw [if_neg (by omega)]
    cases hall : xs.all okc with
    | true =>
      simp only [if_true]
      by_cases h1 : id < 0
      · rw [if_pos h1, decide_eq_true (Or.inl h1)]
      · rw [if_neg h1]; congr 1; rw [Bool.eq_iff_iff]; simp; omega
    | false => simp
  | succ m ih =>
    intro K i ok hi hok
    rw [show m + 1 + 1 + (K + 1) = (m + 1 + (K + 1)) + 1 by omega]
    have hilt : i < xs.length := by omega
    have hx := rd_eq xs i hilt
    have htk : (xs.take (i + 1)).all okc = (ok && okc (rd xs (i : Int))) := by
      rw [List.take_add_one, List.getElem?_eq_getElem hilt, hok, hx]
      simp only [Option.toList_some, List.all_append, List.all_cons, List.all_nil, Bool.and_true]
    conv => lhs; unfold crierlaw12_SgiWhom.l0
    rw [if_pos (by omega), w64 ((i : Int) + 1) (by omega), show ((i : Int) + 1) = ((i + 1 : Nat) : Int) by omega]
    cases ok with
    | true =>
      rw [if_pos rfl, if_pos (by omega)]
      by_cases h : rd xs (i : Int) ≥ 0
      · rw [if_pos h]; exact ih K (i + 1) _ (by omega) (by rw [htk]; simp [okc]; omega)
      · rw [if_neg h]; exact ih K (i + 1) _ (by omega) (by rw [htk]; simp [okc]; omega)
    | false => rw [if_neg (by simp)]; exact ih K (i + 1) _ (by omega) (by rw [htk]; rfl)

theorem SgiWhom : crierlaw12_SgiWhom.Pure := by
  intro id xs from_ hid hml hsz hwf hfr
  have hn : xs.length ≤ 9223372036854775806 := by omega
  refine ⟨xs.length + 1 + (xs.length + 40), ?_⟩
  unfold crierlaw12_SgiWhom.f
  rw [awake_true _ (by omega), Option.bind_some, if_pos rfl]
  have hw := whom_run id xs hn xs.length (xs.length + 40) 0 0 (by omega) (by simp) (by intro k hk; simp [tb_zero])
  unfold sgi_Whom.f
  simp only [show ((0 : Nat) : Int) = 0 from rfl] at hw
  have hl0 := fun e a c (p q : Bool) => l0_run id xs from_ e a c p q hn xs.length (xs.length + 39) 0 true (by omega) (by simp)
  rw [show xs.length + 39 + 1 = xs.length + 40 by omega] at hl0
  simp only [show ((0 : Nat) : Int) = 0 from rfl] at hl0
  cases hall : xs.all okc with
  | true =>
    rw [hall, if_pos rfl] at hw
    by_cases hbad : id < 0 ∨ id > 15
    · rw [if_pos hbad] at hw
      rw [hw, Option.bind_some, hl0, hall, if_pos rfl, decide_eq_true hbad, show xs.length + 40 = (xs.length + 39) + 1 by omega]
      unfold crierlaw12_SgiWhom.j1
      simp
    · rw [if_neg hbad] at hw
      obtain ⟨T, hT, hw⟩ := hw
      have hok := List.all_eq_true.1 hall
      have hin : ∀ x ∈ xs, ∃ k : Nat, k < 8 ∧ x = (k : Int) := by
        intro x hx
        have := hok x hx
        simp [okc] at this
        exact ⟨x.toNat, by omega, by omega⟩
      have hc8 : cnt 8 = 8 := by decide
      have hlen := toUpto_some T from_ 8
      have hlt : (toL false false T from_ 8).length ≤ 8 := toL_length _ _ _ _ _
      have hp := pop_add T 8 8
      have hz : pop (T / 2 ^ 8) 8 = 0 := by
        have : ∀ n : Nat, n ≤ 8 → pop (T / 2 ^ 8) n = 0 := by
          intro n
          induction n with
          | zero => intro _; rfl
          | succ n ih =>
            intro hn8
            rw [pop, ih (by omega), tb_div]
            have : ¬ (tb T (8 + n) = true) := by
              rw [hT (8 + n) (by omega)]
              intro hm
              obtain ⟨k, hk, he⟩ := hin _ hm
              omega
            rw [if_neg this]
        exact this 8 (Nat.le_refl _)
      have hsp : pop T 16 = (toL false false T from_ 8).length := by
        unfold toL; rw [hc8, hlen]; have : pop T (8 + 8) = pop T 16 := rfl; omega
      have hsup : ∀ x ∈ toL false false T from_ 8, x ∈ xs := by
        intro x hx
        unfold toL at hx
        obtain ⟨k, h1, h2, rfl⟩ := (mem_toUpto false false T from_ x (cnt 8)).1 hx
        rw [hc8] at h1
        refine (hT k (by omega)).1 ?_
        simpa [called] using h2
      have hsub : ∀ x ∈ xs, x ∈ toL false false T from_ 8 := by
        intro x hx
        obtain ⟨k, hk, rfl⟩ := hin x hx
        unfold toL
        refine (mem_toUpto false false T from_ _ (cnt 8)).2 ⟨k, by rw [hc8]; exact hk, ?_, rfl⟩
        simp [called, (hT k (by omega)).2 hx]
      rw [hw, Option.bind_some, hl0, hall, if_pos rfl, decide_eq_false hbad, show xs.length + 40 = (xs.length + 39) + 1 by omega]
      unfold crierlaw12_SgiWhom.j1 crierlaw12_to.f
      simp only [Bool.false_eq_true, if_false, Option.bind_some]
      have h := l1_run id xs (toL false false T from_ 8) T (by omega) hlt hsup hsub hsp (toL false false T from_ 8).length 0 (17 - (toL false false T from_ 8).length) (by omega)
      rw [show (toL false false T from_ 8).length + 1 + (xs.length + 1 + (17 - (toL false false T from_ 8).length + 20)) = xs.length + 39 by omega] at h
      exact h
  | false =>
    rw [hall, if_neg (by simp)] at hw
    rw [hw, Option.bind_some, hl0, hall, if_neg (by simp), show xs.length + 40 = (xs.length + 39) + 1 by omega]
    unfold crierlaw12_SgiWhom.j1
    simp
end Go.Proofs.Ytfenchaiflfobaa.Pure
