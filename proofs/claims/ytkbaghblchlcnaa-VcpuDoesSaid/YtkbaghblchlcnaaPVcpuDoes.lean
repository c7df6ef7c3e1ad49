/- VcpuDoes: what the row asks for. -/
import Derived.Test.YtkbaghblchlcnaaTc
import Derived.Test.YtkbaghblchlcnaaD29
namespace Go.Proofs.Ytkbaghblchlcnaa.Pure
open Go.RowKit Go.Shelf Go.Proofs.YtkbaghblchlcnaaW.PrintWords Go.Proofs.Ytkbaghblchlcnaa.IAll
theorem vcpuDoes_both (a0 m p0 p1 : Int) (o0 o1 sp : Bool) (a b : Int) (B : Option Addr) (cB : Nat) (sc : List Lr.VA)  (w : World) (h0 : (Lit.int .u8 a0).wf = true) (_ : (Lit.int .i64 m).wf = true) (_ : (Lit.int .i64 p0).wf = true) (_ : (Lit.int .i64 p1).wf = true) (ha : (Lit.int .u32 a).wf = true) (hb : (Lit.int .u32 b).wf = true) (hS : Lr.ScOk w B sc)  :
    Calls Try.prog 10 #[.int .u8 a0, .agg #[.int .i64 m, .int .i64 p0, .int .i64 p1, .bool o0, .bool o1, .bool sp, .int .u32 a, .int .u32 b], .slice B sc.length cB] w fun e w' => e = .returned (.bool true) ∧ Below w.heap.size w w' :=
  Lr.Wd.does_law a0 (Lr.wfu8 h0).1 m p0 p1 o0 o1 sp a b (Lr.wfu32 ha).1 (Lr.wfu32 ha).2 (Lr.wfu32 hb).1 (Lr.wfu32 hb).2 w B cB sc hS
end Go.Proofs.Ytkbaghblchlcnaa.Pure
