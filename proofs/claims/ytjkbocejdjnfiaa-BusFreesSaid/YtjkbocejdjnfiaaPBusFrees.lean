/- BusFrees: what the row asks for. -/
import Derived.Test.YtjkbocejdjnfiaaB13
namespace Go.Proofs.Ytjkbocejdjnfiaa.Pure
open Go.RowKit Go.Shelf Go.Proofs.YtjkbocejdjnfiaaW.PrintWords Go.Proofs.Ytjkbocejdjnfiaa.IAll
theorem busFrees_both (A : Option Addr) (c : Nat) (ls : List S33) (sz : Int) (st : Int) (e : Int) (w : World) (hC : Kd.C k33 w A ls.length ls) (hl : ls.length ≤ c) (_ : c ≤ maxLen) (_ : ∀ p ∈ ls, (Lit.int .i64 p.f0).wf = true ∧ (Lit.int .i64 p.f1).wf = true ∧ (Lit.int .i64 p.f2).wf = true ∧ (Lit.int .i64 p.f3).wf = true) (_ : (Lit.int .i64 sz).wf = true) (_ : (Lit.int .i64 st).wf = true) (he : (Lit.int .i64 e).wf = true) :
    Calls Try.prog 4 #[.slice A ls.length c, .int .i64 sz, .int .i64 st, .int .i64 e] w fun e w' => e = .returned (.bool true) ∧ Below w.heap.size w w' :=
  Bs.frees_law A c ls sz st e w hC hl (Bs.wfi he).2
end Go.Proofs.Ytjkbocejdjnfiaa.Pure
