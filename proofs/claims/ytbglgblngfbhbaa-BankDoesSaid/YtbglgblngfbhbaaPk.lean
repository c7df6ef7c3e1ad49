/- For the rows of layer 9: an act, and what its numbers may be. -/
import Derived.Test.YtbglgblngfbhbaaMB
namespace Go.Proofs.Ytbglgblngfbhbaa.IAll
abbrev S45 := Bk.S
abbrev k45 := Bk.kS
theorem k45_mk (w : World) (x : S45) : k45.K w x (Bk.eS x) := Bk.kS_mk w x
end Go.Proofs.Ytbglgblngfbhbaa.IAll
namespace Go.Proofs.Ytbglgblngfbhbaa.Bk
open Go.RowKit
theorem wfi64 {a : Int} (h : (Lit.int .i64 a).wf = true) : Wid a := by
  simp [Lit.wf, IntKind.min, IntKind.max, IntKind.signed, IntKind.bits] at h
  unfold Wid
  omega
theorem wfu8 {a : Int} (h : (Lit.int .u8 a).wf = true) : 0 ≤ a ∧ a ≤ 255 := by
  simp [Lit.wf, IntKind.min, IntKind.max, IntKind.signed, IntKind.bits] at h
  omega
theorem wfS {ls : List S} (h : ∀ p ∈ ls, (Lit.int .i64 p.f0).wf = true ∧ (Lit.int .i64 p.f1).wf = true ∧ (Lit.int .i64 p.f7).wf = true ∧ (Lit.int .i64 p.f8).wf = true ∧ (Lit.int .i64 p.f10).wf = true) : ∀ x ∈ ls, Wid x.f1 := fun x hx => wfi64 (h x hx).2.1
end Go.Proofs.Ytbglgblngfbhbaa.Bk
