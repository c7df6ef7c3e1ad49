/- What is taken first waits, and nothing else that waits comes ahead of it: for every input. -/
import Derived.Test.YtbhideabefjadaaP0
import Derived.Test.YtbhideabefjadaaIAllx8
namespace Go.Proofs.Ytbhideabefjadaa.Pure
open Go.RowKit Go.Proofs.Ytbhideabefjadaa.IAll Go.Proofs.YtbhideabefjadaaW.PrintWords Go.Proofs.YtbhideabefjadaaW.PrintLast Go.Proofs.YtbhideabefjadaaW.PrintMore

theorem pl_has (p : S24 → Bool) (xs : List S24) (n i : Nat) (hi : i < n) (h : p (rd_T24 xs i) = true) : (i : Int) ∈ pl p xs n := by
  induction n with
  | zero => omega
  | succ n ih =>
    rw [pl, List.mem_append]
    by_cases e : i = n
    · subst e; right; rw [if_pos h]; simp
    · left; exact ih (by omega)
theorem step_i (i n : Nat) (h : i < n) (hn : n ≤ 9223372036854775807) : wrap64 ((i : Int) + 1) = ((i + 1 : Nat) : Int) := by rw [w64 _ (by omega)]; simp
/-- what is known of the first one of some -/
theorem best_inv (xs : List S24) (ks : List Int) :
    (∀ k ∈ ks, (bestOf xs ks).is = true ∧ ¬ (rd_T24 xs k).f2 < (bestOf xs ks).pr ∧ ((rd_T24 xs k).f2 = (bestOf xs ks).pr → ¬ (rd_T24 xs k).f1 < (bestOf xs ks).id)) ∧
    ((bestOf xs ks).is = true → ∃ k ∈ ks, (rd_T24 xs k).f1 = (bestOf xs ks).id ∧ (rd_T24 xs k).f2 = (bestOf xs ks).pr ∧ (rd_T24 xs k).f3 = (bestOf xs ks).gr) := by
  have main : ∀ n, ∀ ks : List Int, ks.length = n → ((∀ k ∈ ks, (bestOf xs ks).is = true ∧ ¬ (rd_T24 xs k).f2 < (bestOf xs ks).pr ∧ ((rd_T24 xs k).f2 = (bestOf xs ks).pr → ¬ (rd_T24 xs k).f1 < (bestOf xs ks).id)) ∧
    ((bestOf xs ks).is = true → ∃ k ∈ ks, (rd_T24 xs k).f1 = (bestOf xs ks).id ∧ (rd_T24 xs k).f2 = (bestOf xs ks).pr ∧ (rd_T24 xs k).f3 = (bestOf xs ks).gr)) := by
    intro n
    induction n with
    | zero =>
      intro ks h
      obtain rfl := List.length_eq_zero_iff.1 h
      exact ⟨by simp, fun h => by simp [bestOf, Cand.zero] at h⟩
    | succ n ih =>
      intro ks h
      obtain ⟨ks', k, rfl⟩ : ∃ ks' k, ks = ks' ++ [k] := ⟨ks.dropLast, ks.getLast (by intro e; subst e; simp at h), (List.dropLast_concat_getLast _).symm⟩
      obtain ⟨ih1, ih2⟩ := ih ks' (by simpa using h)
      rw [bestOf_snoc]
      generalize bestOf xs ks' = c at *
      unfold bestStep before
      by_cases hc : (!c.is || (decide ((rd_T24 xs k).f2 < c.pr) || ((rd_T24 xs k).f2 == c.pr && decide ((rd_T24 xs k).f1 < c.id)))) = true
      · rw [if_pos hc]
        refine ⟨fun q hq => ⟨rfl, ?_⟩, fun _ => ⟨k, by simp, rfl, rfl, rfl⟩⟩
        rw [List.mem_append] at hq
        rcases hq with hq | hq
        · obtain ⟨h1, h2, h3⟩ := ih1 q hq
          rw [h1] at hc
          simp at hc
          dsimp only
          omega
        · simp at hq; subst hq
          exact ⟨by dsimp only; omega, fun _ => by dsimp only; omega⟩
      · rw [if_neg hc]
        simp at hc
        refine ⟨fun q hq => ?_, fun h => ?_⟩
        · rw [List.mem_append] at hq
          rcases hq with hq | hq
          · exact ih1 q hq
          · simp at hq; subst hq
            exact ⟨hc.1, by omega, fun e => by have := hc.2.2 e; omega⟩
        · obtain ⟨q, hq, hh⟩ := ih2 h
          exact ⟨q, by simp [hq], hh⟩
  exact main ks.length ks rfl
theorem best_true (l : List S24) (hl : l.length ≤ 9223372036854775807) (id pr gr : Int) (hall : ∀ j : Nat, j < l.length → (rd_T24 l j).f0 = 1 → ¬ (rd_T24 l j).f2 < pr ∧ ((rd_T24 l j).f2 = pr → ¬ (rd_T24 l j).f1 < id))
    (j0 : Nat) (h0 : (rd_T24 l j0).f0 = 1 ∧ (rd_T24 l j0).f1 = id ∧ (rd_T24 l j0).f2 = pr ∧ (rd_T24 l j0).f3 = gr) (hj0 : j0 < l.length) (m : Nat) :
    ∀ (K i : Nat) (x5 x6 : Bool), i + m = l.length → (j0 < i → x5 = true ∧ x6 = true) → crierlaw20_LrBest.l0 (m + 1 + K) l true x5 x6 (i : Int) id pr gr true = some true := by
  induction m with
  | zero =>
    intro K i x5 x6 hi hx
    obtain ⟨rfl, rfl⟩ := hx (by omega)
    rw [show 0 + 1 + K = K + 1 by omega]
    rw [crierlaw20_LrBest.l0]
    rw [if_neg (by omega), if_pos rfl]; rfl
  | succ m ih =>
    intro K i x5 x6 hi hx
    rw [show m + 1 + 1 + K = (m + 1 + K) + 1 by omega]
    have hil : i < l.length := by clear ih; omega
    have hw := step_i i l.length hil hl
    rw [crierlaw20_LrBest.l0]
    have hi1 : (i : Int) < (l.length : Int) := Int.ofNat_lt.2 hil
    have hi2 : (0 : Int) ≤ (i : Int) := Int.natCast_nonneg i
    rw [if_pos hi1, if_pos hi2, hw]
    clear hw
    by_cases hf : (rd_T24 l i).f0 = 1
    · obtain ⟨h1, h2⟩ := hall i (by omega) hf
      rw [if_pos hf, if_pos rfl, if_neg h1]
      by_cases hp : (rd_T24 l i).f2 = pr
      · rw [if_pos hp, if_neg (h2 hp)]
        cases x5 with
        | true => rw [if_pos rfl]; exact ih K (i + 1) true true (by omega) (fun _ => ⟨rfl, rfl⟩)
        | false =>
          rw [if_neg (by simp)]
          by_cases hn : (rd_T24 l i).f1 = id
          · rw [if_pos hn]
            refine ih K (i + 1) _ true (by omega) (fun hlt => ?_)
            by_cases e : j0 = i
            · subst e; exact ⟨by simp [h0.2.2.2], rfl⟩
            · exact absurd (hx (by omega)).1 (by simp)
          · rw [if_neg hn]
            refine ih K (i + 1) _ true (by omega) (fun hlt => ?_)
            by_cases e : j0 = i
            · subst e; exact absurd h0.2.1 hn
            · exact absurd (hx (by omega)).1 (by simp)
      · rw [if_neg hp]
        have key : ∀ y : Bool, y = x5 → crierlaw20_LrBest.l0 (m + 1 + K) l true y true ((i + 1 : Nat) : Int) id pr gr true = some true := by
          intro y hy
          subst hy
          refine ih K (i + 1) _ true (by omega) (fun hlt => ?_)
          by_cases e : j0 = i
          · subst e; exact absurd h0.2.2.1 hp
          · exact ⟨(hx (by omega)).1, rfl⟩
        cases x5 with
        | true => rw [if_pos rfl]; exact key true rfl
        | false =>
          rw [if_neg (by simp)]
          split <;> exact key false rfl
    · rw [if_neg hf]
      refine ih K (i + 1) _ _ (by omega) (fun hlt => ?_)
      by_cases e : j0 = i
      · subst e; exact absurd h0.1 hf
      · exact hx (by omega)
theorem best_false (l : List S24) (hl : l.length ≤ 9223372036854775807) (id pr gr : Int) (hall : ∀ j : Nat, j < l.length → ¬ (rd_T24 l j).f0 = 1) (m : Nat) :
    ∀ (K i : Nat), i + m = l.length → crierlaw20_LrBest.l0 (m + 1 + K) l true false false (i : Int) id pr gr false = some true := by
  induction m with
  | zero =>
    intro K i hi
    rw [show 0 + 1 + K = K + 1 by omega]
    rw [crierlaw20_LrBest.l0]
    rw [if_neg (by omega), if_pos rfl]; rfl
  | succ m ih =>
    intro K i hi
    rw [show m + 1 + 1 + K = (m + 1 + K) + 1 by omega]
    have hil : i < l.length := by clear ih; omega
    have hw := step_i i l.length hil hl
    rw [crierlaw20_LrBest.l0]
    have hi1 : (i : Int) < (l.length : Int) := Int.ofNat_lt.2 hil
    have hi2 : (0 : Int) ≤ (i : Int) := Int.natCast_nonneg i
    rw [if_pos hi1, if_pos hi2, hw, if_neg (hall i hil)]
    clear hw
    exact ih K (i + 1) (by omega)
theorem awake_true (k : Nat) (h : 20 ≤ k) : crierlaw20_awake.f k = some true := by
  have := more_rounds (g := fun k => crierlaw20_awake.f k) crierlaw20_awake.mono 20 (k - 20) _ awake20
  rwa [show 20 + (k - 20) = k by omega] at this
theorem LrBest (l : List S24) (hl : l.length ≤ 9223372036854775807) : crierlaw20_LrBest.f (l.length + 1 + 20) l = some true := by
  unfold crierlaw20_LrBest.f
  rw [awake_true _ (by omega), Option.bind_some, if_pos rfl]
  unfold lr_Best.f
  rw [if_pos hl, Option.bind_some]
  obtain ⟨i1, i2⟩ := best_inv l (places pWaits l)
  generalize bestOf l (places pWaits l) = B at *
  obtain ⟨id, pr, gr, is⟩ := B
  dsimp only at i1 i2 ⊢
  cases is with
  | true =>
    obtain ⟨k, hk, h1, h2, h3⟩ := i2 rfl
    obtain ⟨k0, k1, k2⟩ := pl_mem pWaits l l.length k hk
    obtain ⟨j0, rfl⟩ : ∃ j : Nat, k = (j : Int) := ⟨k.toNat, by omega⟩
    refine best_true l hl id pr gr (fun j hj hf => ?_) j0 ⟨by simpa [pWaits] using k2, h1, h2, h3⟩ (by omega) l.length 20 0 false false (by omega) (by omega)
    exact (i1 j (pl_has pWaits l l.length j hj (by simp [pWaits, hf]))).2
  | false =>
    refine best_false l hl id pr gr (fun j hj hf => ?_) l.length 20 0 (by omega)
    exact absurd (i1 j (pl_has pWaits l l.length j hj (by simp [pWaits, hf]))).1 (by simp)
theorem lrBest_both (A : Option Addr) (c : Nat) (l : List S24) (w : World) (hr : Kd.C k24 w A l.length l) (hc : l.length ≤ c) (hm : c ≤ maxLen)
    (_ : ∀ p ∈ l, (Lit.int .i64 p.f0).wf = true ∧ (Lit.int .i64 p.f1).wf = true ∧ (Lit.int .i64 p.f2).wf = true ∧ (Lit.int .i64 p.f3).wf = true ∧ (Lit.int .i64 p.f5).wf = true) :
    Calls Try.prog 4 #[.slice A l.length c] w fun en w' => en = .returned (.bool true) ∧ Below w.heap.size w w' :=
  crierlaw20_LrBest.calls (l.length + 1 + 20) A c l true w hr hc (LrBest l (Nat.le_trans hc (Nat.le_trans hm (by unfold maxLen; omega)))) (Aside0.mk rfl)
end Go.Proofs.Ytbhideabefjadaa.Pure
