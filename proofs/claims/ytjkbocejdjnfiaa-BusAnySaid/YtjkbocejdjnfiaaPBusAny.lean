/- BusAny: what the row asks for. -/
import Derived.Test.YtjkbocejdjnfiaaB14
namespace Go.Proofs.Ytjkbocejdjnfiaa.Pure
open Go.RowKit Go.Shelf Go.Proofs.YtjkbocejdjnfiaaW.PrintWords Go.Proofs.Ytjkbocejdjnfiaa.IAll
theorem busAny_both (A : Option Addr) (c : Nat) (ls : List S33) (t : Int) (w : World) (hC : Kd.C k33 w A ls.length ls) (_ : ls.length ≤ c) (_ : c ≤ maxLen) (_ : ∀ p ∈ ls, (Lit.int .i64 p.f0).wf = true ∧ (Lit.int .i64 p.f1).wf = true ∧ (Lit.int .i64 p.f2).wf = true ∧ (Lit.int .i64 p.f3).wf = true) (hwb : ls.length * 32 ≤ 140737488351232) (ht : (Lit.int .u8 t).wf = true) :
    Calls Try.prog 5 #[.slice A ls.length c, .int .u8 t] w fun e w' => e = .returned (.bool true) ∧ Below w.heap.size w w' :=
  by
  have h0 := Bs.wfu8 ht
  have h := Bs.any_law A ls.length c ls t.toNat w hC (by omega) (by omega)
  rwa [Int.toNat_of_nonneg h0.1] at h
end Go.Proofs.Ytjkbocejdjnfiaa.Pure
