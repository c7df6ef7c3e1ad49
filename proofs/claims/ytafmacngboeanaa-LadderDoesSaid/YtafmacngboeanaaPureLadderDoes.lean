/- Proved here: along any acts a ladder is what the document's is: the law LadderDoes of layer 8 answers true at every input. -/
import Derived.Test.YtafmacngboeanaaDoes8
namespace Go.Proofs.Ytafmacngboeanaa.Pure
open Go.RowKit Go.Proofs.YtafmacngboeanaaW.PrintWords Go.Proofs.Ytafmacngboeanaa.IAll
theorem ladderDoes_both (a0 a1 : Int) (A2 : Option Addr) (c2 : Nat) (l2 : List S39) (w : World) (w0 : (Lit.int .u32 a0).wf = true) (w1 : (Lit.int .u32 a1).wf = true) (hC : Kd.C k39 w A2 l2.length l2) (_hl : l2.length ≤ c2) (_hm : c2 ≤ maxLen)
    (_hw : ∀ p ∈ l2, (Lit.int .i64 p.f0).wf = true ∧ (Lit.int .i64 p.f1).wf = true ∧ (Lit.int .i64 p.f2).wf = true) :
    Calls Try.prog 6 #[.int .u32 a0, .int .u32 a1, .slice A2 l2.length c2] w fun e w' => e = .returned (.bool true) ∧ Below w.heap.size w w' :=
  does_c a0 a1 (wf_u32 w0) (wf_u32 w1) A2 c2 l2 w hC
end Go.Proofs.Ytafmacngboeanaa.Pure
