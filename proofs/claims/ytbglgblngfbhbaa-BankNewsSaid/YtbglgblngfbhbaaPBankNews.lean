/- BankNews: what the row asks for. -/
import Derived.Test.YtbglgblngfbhbaaPk
import Derived.Test.YtbglgblngfbhbaaK25
set_option linter.unusedVariables false
namespace Go.Proofs.Ytbglgblngfbhbaa.Pure
open Go.RowKit Go.Shelf Go.Proofs.YtbglgblngfbhbaaW.PrintWords Go.Proofs.Ytbglgblngfbhbaa.IAll
theorem bankNews_both (a0 a1 : Int) (s : ByteArray) (id : Int) (w : World) (w0 : (Lit.int .i64 a0).wf = true) (w1 : (Lit.int .i64 a1).wf = true) (w3 : (Lit.int .i64 id).wf = true) :
    Calls Try.prog 3 #[.int .i64 a0, .int .i64 a1, .string s, .int .i64 id] w fun e w' => e = .returned (.bool true) ∧ Below w.heap.size w w' := by
  exact Bk.news_law a0 a1 s id w (Bk.wfi64 w0) (Bk.wfi64 w1) (Bk.wfi64 w3)
end Go.Proofs.Ytbglgblngfbhbaa.Pure
