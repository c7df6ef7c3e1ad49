/- BusParts: what the row asks for. -/
import Derived.Test.YtjkbocejdjnfiaaB11
namespace Go.Proofs.Ytjkbocejdjnfiaa.Pure
open Go.RowKit Go.Shelf Go.Proofs.YtjkbocejdjnfiaaW.PrintWords Go.Proofs.Ytjkbocejdjnfiaa.IAll
theorem busParts_both (A : Option Addr) (c : Nat) (ls : List S33) (e : Int) (addr : Int) (w : World) (hC : Kd.C k33 w A ls.length ls) (_ : ls.length ≤ c) (_ : c ≤ maxLen) (_ : ∀ p ∈ ls, (Lit.int .i64 p.f0).wf = true ∧ (Lit.int .i64 p.f1).wf = true ∧ (Lit.int .i64 p.f2).wf = true ∧ (Lit.int .i64 p.f3).wf = true) (he : (Lit.int .i64 e).wf = true) (_ : (Lit.int .i64 addr).wf = true) :
    Calls Try.prog 7 #[.slice A ls.length c, .int .i64 e, .int .i64 addr] w fun e w' => e = .returned (.bool true) ∧ Below w.heap.size w w' :=
  Bs.parts_law A ls.length c ls e addr w hC (Bs.wfi he).2
end Go.Proofs.Ytjkbocejdjnfiaa.Pure
