/- Which processors are called, and how many, is what the document says: for every input. -/
import Derived.Test.YtfenchaiflfobaaP0
import Derived.Test.YtfenchaiflfobaaIAllx8
namespace Go.Proofs.Ytfenchaiflfobaa.Pure
open Go.RowKit Go.Proofs.Ytfenchaiflfobaa.IAll Go.Proofs.YtfenchaiflfobaaW.PrintWords Go.Proofs.YtfenchaiflfobaaW.PrintLast Go.Proofs.YtfenchaiflfobaaW.PrintMore

theorem to_run (all odd : Bool) (t from_ cores : Int) (m : Nat) : ∀ (K n : Nat), n + m = cnt cores →
    crierref12_To.l0 (2 * m + 2 + K) all odd t from_ cores (toUpto all odd t from_ n) (n : Int) = some (toL all odd t from_ cores) := by
  induction m with
  | zero =>
    intro K n hn
    rw [show 2 * 0 + 2 + K = (K + 1) + 1 by omega]
    unfold crierref12_To.l0
    unfold crierref12_To.j1
    have hL : toUpto all odd t from_ n = toL all odd t from_ cores := by rw [toL, ← hn]; rfl
    have hc : ¬ ((n : Int) < cores ∧ (n : Int) < 8) := by unfold cnt at hn; omega
    rw [hL]
    by_cases h1 : (n : Int) < cores
    · rw [if_pos h1, decide_eq_false (by omega)]; simp
    · rw [if_neg h1]; simp
  | succ m ih =>
    intro K n hn
    have hlt : (n : Int) < cores ∧ (n : Int) < 8 := by unfold cnt at hn; omega
    have hrec := ih K (n + 1) (by omega)
    have hlen := toUpto_length all odd t from_ n
    have hsh : shr .i64 t (n : Int) = t / 2 ^ n := by unfold shr; rw [Nat.min_eq_left (by simp [IntKind.bits]; omega)]; rfl
    have hbt := bit_test_i t n
    rw [show 2 * (m + 1) + 2 + K = (2 * m + 2 + K + 1) + 1 by omega]
    conv => lhs; unfold crierref12_To.l0
    rw [if_pos hlt.1, decide_eq_true hlt.2]
    conv => lhs; unfold crierref12_To.j1
    rw [if_pos rfl, hsh, w64 _ (by omega)]
    have e : ((n : Int) + 1) = ((n + 1 : Nat) : Int) := by omega
    rw [e]
    cases all with
    | true =>
      rw [if_pos rfl]
      by_cases hk : (n : Int) = from_
      · rw [if_pos hk]
        have : toUpto true odd t from_ (n + 1) = toUpto true odd t from_ n := by rw [toUpto, if_neg (by simp [called, hk]), List.append_nil]
        rw [this] at hrec; exact hrec
      · rw [if_neg hk, if_pos (by omega)]
        have : toUpto true odd t from_ (n + 1) = toUpto true odd t from_ n ++ [(n : Int)] := by rw [toUpto, if_pos (by simp [called, hk])]
        rw [this] at hrec; exact hrec
    | false =>
      rw [if_neg (by simp)]
      cases odd with
      | true =>
        rw [if_pos rfl]
        have : toUpto false true t from_ (n + 1) = toUpto false true t from_ n := by rw [toUpto, if_neg (by simp [called]), List.append_nil]
        rw [this] at hrec; exact hrec
      | false =>
        rw [if_neg (by simp), if_pos (by omega)]
        cases ht : tb t n with
        | true =>
          rw [ht] at hbt
          rw [if_pos (beq_iff_eq.1 hbt), if_pos (by omega)]
          have : toUpto false false t from_ (n + 1) = toUpto false false t from_ n ++ [(n : Int)] := by rw [toUpto, if_pos (by simp [called, ht])]
          rw [this] at hrec; exact hrec
        | false =>
          rw [ht] at hbt
          rw [if_neg (by intro h; rw [beq_eq_false_iff_ne] at hbt; exact hbt h)]
          have : toUpto false false t from_ (n + 1) = toUpto false false t from_ n := by rw [toUpto, if_neg (by simp [called, ht]), List.append_nil]
          rw [this] at hrec; exact hrec

theorem SgiCalls (id : Int) (all : Bool) (t : Int) (odd : Bool) (from_ cores : Int) : crierlaw12_SgiCalls.f 40 id all t odd from_ cores = some true := by
  have hle := cnt_le cores
  have hlen := toL_length all odd t from_ cores
  unfold crierlaw12_SgiCalls.f crierref12_To.f crierlaw12_to.f sgi_Many.f
  have h := to_run all odd t from_ cores (cnt cores) (38 - 2 * cnt cores) 0 (by omega)
  rw [show 2 * cnt cores + 2 + (38 - 2 * cnt cores) = 40 by omega] at h
  rw [show crierref12_To.l0 40 all odd t from_ cores [] 0 = _ from h, awake_true 40 (by omega)]
  simp only [Option.bind_some, if_true]
  rw [same_self _ (by omega) 40 (by omega)]
  simp

theorem sgiCalls_both (id : Int) (all : Bool) (t : Int) (odd : Bool) (from_ cores : Int) (_ : (Lit.int .i64 id).wf = true) (_ : (Lit.int .i64 t).wf = true) (_ : (Lit.int .i64 from_).wf = true) (_ : (Lit.int .i64 cores).wf = true) (w : World) :
    Calls Try.prog 4 #[.agg #[.int .i64 id, .bool all, .int .i64 t, .bool odd], .int .i64 from_, .int .i64 cores] w fun e w' => e = .returned (.bool true) ∧ Below w.heap.size w w' :=
  crierlaw12_SgiCalls.calls 40 id all t odd from_ cores true w (SgiCalls id all t odd from_ cores) (Aside0.mk rfl)
end Go.Proofs.Ytfenchaiflfobaa.Pure
