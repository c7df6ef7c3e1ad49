/- Whole interfaces and candidates stored; two words of 32 bits compared. -/
import Derived.Test.YtpjenhojldcmiaaSem14
import Derived.Test.YtpjenhojldcmiaaCp10
import Derived.Test.YtpjenhojldcmiaaNm
namespace Go.Proofs.Ytpjenhojldcmiaa
open Go.RowKit Go.Shelf
theorem infoI : (Try.prog.info? 29).map (·.size) = some 8 := by kernel_rfl
theorem infoC : (Try.prog.info? 31).map (·.size) = some 4 := by kernel_rfl
section
variable {w : World} {ρ : Operand → Value} {x y : Operand} {dst : Option Tmp} {t0 : TypeId} {pos : String} {af : Array Edge} {gd : Option (Nat × Bool)}
theorem storeI (hx : ρ x = .pointer (some ⟨blk (ρ x), 0, none⟩)) (hy : ρ y = .agg (aggOf (ρ y))) (h : isRow w (blk (ρ x))) (hs : (rowAt w (blk (ρ x))).size = 8) (hc : (aggOf (ρ y)).size = 8) (h1 : AllOne (aggOf (ρ y))) : (execOp ρ { dst := dst, op := .store 29 x y, type := t0, pos := pos, after := af, guard := gd }).run Try.prog w = .ok .skip (w.setRow (blk (ρ x)) (aggOf (ρ y))) := run_store_op infoI hx hy h hs hc h1
theorem storeC (hx : ρ x = .pointer (some ⟨blk (ρ x), 0, none⟩)) (hy : ρ y = .agg (aggOf (ρ y))) (h : isRow w (blk (ρ x))) (hs : (rowAt w (blk (ρ x))).size = 4) (hc : (aggOf (ρ y)).size = 4) (h1 : AllOne (aggOf (ρ y))) : (execOp ρ { dst := dst, op := .store 31 x y, type := t0, pos := pos, after := af, guard := gd }).run Try.prog w = .ok .skip (w.setRow (blk (ρ x)) (aggOf (ρ y))) := run_store_op infoC hx hy h hs hc h1
end
theorem eq2u (d : Nat) (w : World) (x0 y0 : Int) (x1 y1 : Int) :
    (Op.equalIn (d + 2) 25 (.agg #[.int .u32 x0, .int .u32 x1]) (.agg #[.int .u32 y0, .int .u32 y1])).run Try.prog w = .ok (x0 == y0 && (x1 == y1)) w := by
  obtain ⟨i, hi⟩ := Option.isSome_iff_exists.1 (show (Try.prog.info? 24).isSome = true by kernel_rfl)
  refine eqArr_of Try.underlying25 hi (show Try.prog.cellsOf 24 = 1 by kernel_rfl) (by rfl) ?_
  refine eqi_cons (by go_simp; rfl) (by go_simp; rfl) (by go_simp) ?_
  exact eqi_last (by go_simp; rfl) (by go_simp; rfl) (by go_simp)
end Go.Proofs.Ytpjenhojldcmiaa
