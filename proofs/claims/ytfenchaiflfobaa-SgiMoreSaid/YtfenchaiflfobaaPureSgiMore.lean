/- More processors are called by a call of more, and among more; an odd one calls nobody but all: for every input. -/
import Derived.Test.YtfenchaiflfobaaP0
import Derived.Test.YtfenchaiflfobaaIAllx12
namespace Go.Proofs.Ytfenchaiflfobaa.Pure
open Go.RowKit Go.Proofs.Ytfenchaiflfobaa.IAll Go.Proofs.YtfenchaiflfobaaW.PrintWords Go.Proofs.YtfenchaiflfobaaW.PrintLast Go.Proofs.YtfenchaiflfobaaW.PrintMore

theorem has_run (xs : List Int) (x : Int) (hn : xs.length ≤ 9223372036854775806) (m : Nat) : ∀ (K i : Nat), i + m = xs.length → crierref01_Has.l0 (m + 1 + K) xs x (i : Int) = some (decide (x ∈ xs.drop i)) := by
  induction m with
  | zero =>
    intro K i hi
    rw [show 0 + 1 + K = K + 1 by omega]
    unfold crierref01_Has.l0
    rw [if_neg (by omega), List.drop_eq_nil_of_le (by omega)]; simp
  | succ m ih =>
    intro K i hi
    rw [show m + 1 + 1 + K = (m + 1 + K) + 1 by omega]
    have hrec := ih K (i + 1) (by omega)
    unfold crierref01_Has.l0
    rw [if_pos (by omega), if_pos (by omega), rd_eq xs i (by omega), List.drop_eq_getElem_cons (by omega)]
    by_cases h : xs[i]'(by omega) = x
    · rw [if_pos h]; simp [h]
    · rw [if_neg h, w64 _ (by omega), show ((i : Int) + 1) = ((i + 1 : Nat) : Int) by omega, hrec]
      exact congrArg some (decide_eq_decide.mpr ⟨fun h' => List.mem_cons_of_mem _ h', fun h' => (List.mem_cons.1 h').resolve_left (fun e => h e.symm)⟩)
theorem has_is (xs : List Int) (x : Int) (hn : xs.length ≤ 9223372036854775806) (k : Nat) (hk : xs.length + 1 ≤ k) : crierref01_Has.f k xs x = some (decide (x ∈ xs)) := by
  unfold crierref01_Has.f
  have := has_run xs x hn xs.length (k - (xs.length + 1)) 0 (by omega)
  rw [show xs.length + 1 + (k - (xs.length + 1)) = k by omega] at this
  exact this

theorem mem_toUpto (all odd : Bool) (t from_ x : Int) (n : Nat) : x ∈ toUpto all odd t from_ n ↔ ∃ k : Nat, k < n ∧ called all odd t from_ k = true ∧ x = (k : Int) := by
  induction n with
  | zero => simp [toUpto]
  | succ n ih =>
    rw [toUpto, List.mem_append, ih]
    constructor
    · rintro (⟨k, h1, h2, h3⟩ | h)
      · exact ⟨k, by omega, h2, h3⟩
      · split at h
        · next hc => exact ⟨n, by omega, hc, by simpa using h⟩
        · simp at h
    · rintro ⟨k, h1, h2, h3⟩
      by_cases e : k = n
      · subst e; right; rw [if_pos h2]; simp [h3]
      · exact .inl ⟨k, by omega, h2, h3⟩
theorem more_sub (all odd : Bool) (t more from_ cores x : Int) (h : x ∈ toL all odd t from_ cores) : x ∈ toL all odd (Go.bits .or .i64 t more) from_ cores := by
  unfold toL at h ⊢
  rw [mem_toUpto] at h ⊢
  obtain ⟨k, h1, h2, h3⟩ := h
  refine ⟨k, h1, ?_, h3⟩
  have := cnt_le cores
  unfold called at h2 ⊢
  cases all with
  | true => exact h2
  | false =>
    simp only [Bool.false_eq_true, if_false] at h2 ⊢
    rw [tb_or_i _ _ _ (by omega)]
    cases ht : tb t k <;> simp_all
theorem odd_none (t from_ cores : Int) : toL false true t from_ cores = [] := by
  unfold toL
  generalize cnt cores = n
  induction n with
  | zero => rfl
  | succ n ih => rw [toUpto, ih, if_neg (by simp [called])]; rfl
theorem wider (all odd : Bool) (t from_ cores : Int) : (toL all odd t from_ cores).length ≤ (toL all odd t from_ (cores + 1)).length := by
  unfold toL
  obtain ⟨post, h⟩ := toUpto_mono all odd t from_ (cnt cores) (cnt (cores + 1) - cnt cores)
  rw [show cnt cores + (cnt (cores + 1) - cnt cores) = cnt (cores + 1) by unfold cnt; omega] at h
  rw [h]; simp

theorem more_run (id : Int) (all odd : Bool) (t from_ cores : Int) (hc : -9223372036854775808 ≤ cores) (ys : List Int) (hy : ys.length ≤ 8) (hsub : ∀ x ∈ toL all odd t from_ cores, x ∈ ys) (m : Nat) :
    ∀ (K i : Nat), i + m = (toL all odd t from_ cores).length → crierlaw12_SgiMore.l0 (m + 1 + (K + 10)) from_ cores true (toL all odd t from_ cores) ys (i : Int) id all t odd = some true := by
  have hl := toL_length all odd t from_ cores
  induction m with
  | zero =>
    intro K i hi
    rw [show 0 + 1 + (K + 10) = (K + 10) + 1 by omega]
    unfold crierlaw12_SgiMore.l0 crierlaw12_to.f
    have hw := wider all odd t from_ cores
    rw [if_neg (by omega), if_pos rfl]
    simp only [Option.bind_some]
    cases all with
    | true =>
      rw [if_pos rfl]
      by_cases hb : cores > 1099511627776
      · rw [if_pos hb]
      · rw [if_neg hb, w64 _ (by omega), decide_eq_true (by omega)]
    | false =>
      rw [if_neg (by simp), odd_none, if_pos (by simp)]
      by_cases hb : cores > 1099511627776
      · rw [if_pos hb]
      · rw [if_neg hb, w64 _ (by omega), decide_eq_true (by omega)]
  | succ m ih =>
    intro K i hi
    rw [show m + 1 + 1 + (K + 10) = (m + 1 + (K + 10)) + 1 by omega]
    have hrec := ih K (i + 1) (by omega)
    unfold crierlaw12_SgiMore.l0
    rw [if_pos (by omega), if_pos (by omega), rd_eq _ i (by omega), has_is ys _ (by omega) _ (by omega), Option.bind_some, decide_eq_true (hsub _ (List.getElem_mem _)), if_pos rfl, w64 _ (by omega)]
    exact_mod_cast hrec

theorem SgiMore (id : Int) (all : Bool) (t : Int) (odd : Bool) (more from_ cores : Int) (hc : -9223372036854775808 ≤ cores) : crierlaw12_SgiMore.f 40 id all t odd more from_ cores = some true := by
  have hl := toL_length all odd t from_ cores
  unfold crierlaw12_SgiMore.f crierlaw12_to.f
  rw [awake_true 40 (by omega)]
  simp only [Option.bind_some, if_true]
  have h := more_run id all odd t from_ cores hc (toL all odd (Go.bits .or .i64 t more) from_ cores) (toL_length _ _ _ _ _) (fun x hx => more_sub all odd t more from_ cores x hx) (toL all odd t from_ cores).length (29 - (toL all odd t from_ cores).length) 0 (by omega)
  rw [show (toL all odd t from_ cores).length + 1 + (29 - (toL all odd t from_ cores).length + 10) = 40 by omega] at h
  exact h

theorem sgiMore_both (id : Int) (all : Bool) (t : Int) (odd : Bool) (more from_ cores : Int) (_ : (Lit.int .i64 id).wf = true) (_ : (Lit.int .i64 t).wf = true) (_ : (Lit.int .i64 more).wf = true) (_ : (Lit.int .i64 from_).wf = true) (hc : (Lit.int .i64 cores).wf = true) (w : World) :
    Calls Try.prog 5 #[.agg #[.int .i64 id, .bool all, .int .i64 t, .bool odd], .int .i64 more, .int .i64 from_, .int .i64 cores] w fun e w' => e = .returned (.bool true) ∧ Below w.heap.size w w' :=
  crierlaw12_SgiMore.calls 40 id all t odd more from_ cores true w (SgiMore id all t odd more from_ cores (wf_i64 hc).1) (Aside0.mk rfl)
end Go.Proofs.Ytfenchaiflfobaa.Pure
