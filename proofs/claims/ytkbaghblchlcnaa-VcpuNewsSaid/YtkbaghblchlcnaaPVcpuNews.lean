/- VcpuNews: what the row asks for. -/
import Derived.Test.YtkbaghblchlcnaaWo
namespace Go.Proofs.Ytkbaghblchlcnaa.Pure
open Go.RowKit Go.Shelf Go.Proofs.YtkbaghblchlcnaaW.PrintWords Go.Proofs.Ytkbaghblchlcnaa.IAll
theorem vcpuNews_both (l : Int) (A : Option Addr) (cA : Nat) (ls : List S54) (w : World) (_ : (Lit.int .i64 l).wf = true) (hC : Kd.C k54 w A ls.length ls) (hcA : ls.length ≤ cA) (_ : cA ≤ maxLen) (_ : ∀ p ∈ ls, (Lit.int .i64 p.f0).wf = true ∧ (Lit.int .i64 p.f1).wf = true ∧ (Lit.int .i64 p.f2).wf = true ∧ (Lit.int .i64 p.f3).wf = true ∧ (Lit.int .i64 p.f5).wf = true) :
    Calls Try.prog 3 #[.int .i64 l, .slice A ls.length cA] w fun e w' => e = .returned (.bool true) ∧ Below w.heap.size w w' :=
  Lr.news_law w A cA ls hC hcA l
end Go.Proofs.Ytkbaghblchlcnaa.Pure
