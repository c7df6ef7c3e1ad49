/- BankDoes: what the row asks for. -/
import Derived.Test.YtbglgblngfbhbaaPk
import Derived.Test.YtbglgblngfbhbaaK29
set_option linter.unusedVariables false
namespace Go.Proofs.Ytbglgblngfbhbaa.Pure
open Go.RowKit Go.Shelf Go.Proofs.YtbglgblngfbhbaaW.PrintWords Go.Proofs.Ytbglgblngfbhbaa.IAll
theorem bankDoes_both (a0 a1 : Int) (A : Option Addr) (c : Nat) (ls : List S45) (g0 g1 : Bool) (w : World) (w0 : (Lit.int .u8 a0).wf = true) (w1 : (Lit.int .u8 a1).wf = true) (hC : Kd.C k45 w A ls.length ls) (hl : ls.length ≤ c) (hm : c ≤ maxLen) (hw : ∀ p ∈ ls, (Lit.int .i64 p.f0).wf = true ∧ (Lit.int .i64 p.f1).wf = true ∧ (Lit.int .i64 p.f7).wf = true ∧ (Lit.int .i64 p.f8).wf = true ∧ (Lit.int .i64 p.f10).wf = true) :
    Calls Try.prog 8 #[.int .u8 a0, .int .u8 a1, .slice A ls.length c, .agg #[.bool g0, .bool g1]] w fun e w' => e = .returned (.bool true) ∧ Below w.heap.size w w' := by
  obtain ⟨x1, x2⟩ := Bk.wfu8 w0
  obtain ⟨y1, y2⟩ := Bk.wfu8 w1
  have hb : ls.length ≤ 9223372036854775807 := Nat.le_trans hl (Nat.le_trans hm (by unfold maxLen; omega))
  exact Bk.bank_law a0 a1 A c ls g0 g1 w x1 x2 y1 y2 hC hb (Bk.wfS hw)
end Go.Proofs.Ytbglgblngfbhbaa.Pure
