/- BankKeeps: what the row asks for. -/
import Derived.Test.YtbglgblngfbhbaaPk
import Derived.Test.YtbglgblngfbhbaaK20
set_option linter.unusedVariables false
namespace Go.Proofs.Ytbglgblngfbhbaa.Pure
open Go.RowKit Go.Shelf Go.Proofs.YtbglgblngfbhbaaW.PrintWords Go.Proofs.Ytbglgblngfbhbaa.IAll
theorem bankKeeps_both (a0 a1 : Int) (A : Option Addr) (c : Nat) (ls : List S45) (b0 : Int) (b1 : Int) (b2 : Bool) (b3 : Bool) (b4 : Bool) (b5 : Bool) (b6 : Bool) (b7 : Int) (b8 : Int) (b9 : ByteArray) (b10 : Int) (id : Int) (w : World) (w0 : (Lit.int .u8 a0).wf = true) (w1 : (Lit.int .u8 a1).wf = true) (hC : Kd.C k45 w A ls.length ls) (hl : ls.length ≤ c) (hm : c ≤ maxLen) (hw : ∀ p ∈ ls, (Lit.int .i64 p.f0).wf = true ∧ (Lit.int .i64 p.f1).wf = true ∧ (Lit.int .i64 p.f7).wf = true ∧ (Lit.int .i64 p.f8).wf = true ∧ (Lit.int .i64 p.f10).wf = true) (v0 : (Lit.int .i64 b0).wf = true) (v1 : (Lit.int .i64 b1).wf = true) (v7 : (Lit.int .i64 b7).wf = true) (v8 : (Lit.int .i64 b8).wf = true) (v10 : (Lit.int .i64 b10).wf = true) (w4 : (Lit.int .i64 id).wf = true) :
    Calls Try.prog 4 #[.int .u8 a0, .int .u8 a1, .slice A ls.length c, .agg #[.int .i64 b0, .int .i64 b1, .bool b2, .bool b3, .bool b4, .bool b5, .bool b6, .int .i64 b7, .int .i64 b8, .string b9, .int .i64 b10], .int .i64 id] w fun e w' => e = .returned (.bool true) ∧ Below w.heap.size w w' := by
  obtain ⟨x1, x2⟩ := Bk.wfu8 w0
  obtain ⟨y1, y2⟩ := Bk.wfu8 w1
  have hb : ls.length ≤ 9223372036854775807 := Nat.le_trans hl (Nat.le_trans hm (by unfold maxLen; omega))
  exact Bk.keeps_law a0 a1 A c ls ⟨b0, b1, b2, b3, b4, b5, b6, b7, b8, b9, b10⟩ id w x1 x2 y1 y2 hC hb (Bk.wfS hw) (Bk.wfi64 v1) (Bk.wfi64 w4)
end Go.Proofs.Ytbglgblngfbhbaa.Pure
