/- BusFinds: what the row asks for. -/
import Derived.Test.YtjkbocejdjnfiaaM1
namespace Go.Proofs.Ytjkbocejdjnfiaa.Pure
open Go.RowKit Go.Shelf Go.Proofs.YtjkbocejdjnfiaaW.PrintWords Go.Proofs.Ytjkbocejdjnfiaa.IAll
theorem busFinds_both (A : Option Addr) (c : Nat) (ls : List S33) (addr : Int) (wd : Int) (w : World) (hC : Kd.C k33 w A ls.length ls) (hl : ls.length ≤ c) (_ : c ≤ maxLen) (_ : ∀ p ∈ ls, (Lit.int .i64 p.f0).wf = true ∧ (Lit.int .i64 p.f1).wf = true ∧ (Lit.int .i64 p.f2).wf = true ∧ (Lit.int .i64 p.f3).wf = true) (hwb : ls.length * 32 ≤ 140737488351232) (_ : (Lit.int .i64 addr).wf = true) (_ : (Lit.int .i64 wd).wf = true) :
    Calls Try.prog 3 #[.slice A ls.length c, .int .i64 addr, .int .i64 wd] w fun e w' => e = .returned (.bool true) ∧ Below w.heap.size w w' :=
  Bs.finds_law A c ls addr wd w hC hl (by omega)
end Go.Proofs.Ytjkbocejdjnfiaa.Pure
