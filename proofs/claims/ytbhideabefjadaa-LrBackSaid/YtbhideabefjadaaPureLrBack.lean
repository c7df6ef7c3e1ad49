/- A list register that may be is read of its number as itself; a number that is read is written as it stood: for every input. -/
import Derived.Test.YtbhideabefjadaaP1
import Derived.Test.YtbhideabefjadaaIAllx17
namespace Go.Proofs.Ytbhideabefjadaa.Pure
open Go.RowKit Go.Proofs.Ytbhideabefjadaa.IAll Go.Proofs.YtbhideabefjadaaW.PrintWords Go.Proofs.YtbhideabefjadaaW.PrintLast Go.Proofs.YtbhideabefjadaaW.PrintMore

theorem back_j0 (s n p g : Int) (h : Bool) (m : Int) (t : Bool) : crierlaw20_LrBack.j0 20 true s n p g h m t = some true := by
  rw [show 20 = 19 + 1 from rfl, crierlaw20_LrBack.j0]
  rw [show 19 = 17 + 2 from rfl, enc_is 17, Option.bind_some]
  by_cases hk : ok s n p g h m t
  · have hE := E_bd hk
    have hD := D_E hk
    simp only [hk, if_true]
    rw [dec_is 17 _ hE.1 hE.2, Option.bind_some, hD]
    have : okL ⟨s, n, p, g, h, m, t⟩ ∧ EL ⟨s, n, p, g, h, m, t⟩ = E s n p g h m t := ⟨hk, rfl⟩
    rw [if_pos this]
    simp
  · simp only [hk, if_false]
    rw [if_neg (by decide), may_is 17]
    simp [hk]
theorem LrBack (s n p g : Int) (h : Bool) (m : Int) (t : Bool) (v : Int) (h0 : 0 ≤ v) (h1 : v ≤ 18446744073709551615) : crierlaw20_LrBack.f 20 s n p g h m t v = some true := by
  unfold crierlaw20_LrBack.f
  rw [awake20, Option.bind_some, if_pos rfl, show 20 = 18 + 2 from rfl, dec_is 18 v h0 h1, Option.bind_some]
  by_cases hk : okL (D v) ∧ EL (D v) = v
  · simp only [hk, and_self, if_true]
    have hk1 : ok (D v).s (D v).n (D v).p (D v).g (D v).h (D v).m (D v).t := hk.1
    have hk2 : E (D v).s (D v).n (D v).p (D v).g (D v).h (D v).m (D v).t = v := hk.2
    rw [enc_is 18, Option.bind_some, if_pos hk1, may_is 18, if_pos hk1, hk2]
    simp only [if_true, Option.bind_some]
    exact back_j0 s n p g h m t
  · rw [if_neg hk]
    simp only
    rw [if_neg (by decide)]
    exact back_j0 s n p g h m t
theorem lrBack_both (s n p g : Int) (h : Bool) (m : Int) (t : Bool) (v : Int)
    (_ : (Lit.int .i64 s).wf = true) (_ : (Lit.int .i64 n).wf = true) (_ : (Lit.int .i64 p).wf = true) (_ : (Lit.int .i64 g).wf = true) (_ : (Lit.int .i64 m).wf = true) (hv : (Lit.int .u64 v).wf = true) (w : World) :
    Calls Try.prog 7 #[.agg #[.int .i64 s, .int .i64 n, .int .i64 p, .int .i64 g, .bool h, .int .i64 m, .bool t], .int .u64 v] w fun en w' => en = .returned (.bool true) ∧ Below w.heap.size w w' :=
  crierlaw20_LrBack.calls 20 s n p g h m t v true w (LrBack s n p g h m t v (wf_u64 hv).1 (wf_u64 hv).2) (Aside0.mk rfl)
end Go.Proofs.Ytbhideabefjadaa.Pure
