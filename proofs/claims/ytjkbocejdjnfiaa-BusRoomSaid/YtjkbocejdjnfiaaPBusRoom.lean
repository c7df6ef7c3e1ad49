/- BusRoom: what the row asks for. -/
import Derived.Test.YtjkbocejdjnfiaaB17
namespace Go.Proofs.Ytjkbocejdjnfiaa.Pure
open Go.RowKit Go.Shelf Go.Proofs.YtjkbocejdjnfiaaW.PrintWords Go.Proofs.Ytjkbocejdjnfiaa.IAll
theorem busRoom_both (A : Option Addr) (c : Nat) (ls : List S33) (sz : Int) (st : Int) (e : Int) (kd : Int) (w : World) (hC : Kd.C k33 w A ls.length ls) (_ : ls.length ≤ c) (_ : c ≤ maxLen) (_ : ∀ p ∈ ls, (Lit.int .i64 p.f0).wf = true ∧ (Lit.int .i64 p.f1).wf = true ∧ (Lit.int .i64 p.f2).wf = true ∧ (Lit.int .i64 p.f3).wf = true) (_ : (Lit.int .i64 sz).wf = true) (_ : (Lit.int .i64 st).wf = true) (_ : (Lit.int .i64 e).wf = true) (_ : (Lit.int .i64 kd).wf = true) :
    Calls Try.prog 8 #[.slice A ls.length c, .int .i64 sz, .int .i64 st, .int .i64 e, .int .i64 kd] w fun e w' => e = .returned (.bool true) ∧ Below w.heap.size w w' :=
  Bs.room_law A ls.length c ls sz st e kd w hC
end Go.Proofs.Ytjkbocejdjnfiaa.Pure
