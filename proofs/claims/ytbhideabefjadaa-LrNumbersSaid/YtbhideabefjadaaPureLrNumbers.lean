/- Which list registers may be, their numbers, and the list register of a number, is what the document says: for every input. -/
import Derived.Test.YtbhideabefjadaaP2
import Derived.Test.YtbhideabefjadaaIAllx16
namespace Go.Proofs.Ytbhideabefjadaa.Pure
open Go.RowKit Go.Proofs.Ytbhideabefjadaa.IAll Go.Proofs.YtbhideabefjadaaW.PrintWords Go.Proofs.YtbhideabefjadaaW.PrintLast Go.Proofs.YtbhideabefjadaaW.PrintMore
theorem LrNumbers (s n p g : Int) (h : Bool) (m : Int) (t : Bool) (v : Int) (h0 : 0 ≤ v) (h1 : v ≤ 18446744073709551615) : crierlaw20_LrNumbers.f 20 s n p g h m t v = some true := by
  unfold crierlaw20_LrNumbers.f
  rw [awake20, show 20 = 18 + 2 from rfl, enc_is 18, may_is 18, show 18 + 2 = 17 + 3 from rfl, renc_is 17, show 17 + 3 = 18 + 2 from rfl, dec_is 18 v h0 h1, show 18 + 2 = 16 + 4 from rfl, rdec_is 16 v h0 h1]
  simp only [Option.bind_some]
  by_cases hk : ok s n p g h m t
  · by_cases hv : okL (D v) ∧ EL (D v) = v
    · simp [hk, hv]
    · simp [hk, hv]
  · by_cases hv : okL (D v) ∧ EL (D v) = v
    · simp [hk, hv]
    · simp [hk, hv]
theorem lrNumbers_both (s n p g : Int) (h : Bool) (m : Int) (t : Bool) (v : Int)
    (_ : (Lit.int .i64 s).wf = true) (_ : (Lit.int .i64 n).wf = true) (_ : (Lit.int .i64 p).wf = true) (_ : (Lit.int .i64 g).wf = true) (_ : (Lit.int .i64 m).wf = true) (hv : (Lit.int .u64 v).wf = true) (w : World) :
    Calls Try.prog 6 #[.agg #[.int .i64 s, .int .i64 n, .int .i64 p, .int .i64 g, .bool h, .int .i64 m, .bool t], .int .u64 v] w fun en w' => en = .returned (.bool true) ∧ Below w.heap.size w w' :=
  crierlaw20_LrNumbers.calls 20 s n p g h m t v true w (LrNumbers s n p g h m t v (wf_u64 hv).1 (wf_u64 hv).2) (Aside0.mk rfl)
end Go.Proofs.Ytbhideabefjadaa.Pure
