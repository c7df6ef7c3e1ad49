-- Written by the program wip/gen/inj.py of this repository, out of the translation, for this claim. Not trusted: Lean checks it.
import Derived.Test.YtpjenhojldcmiaaIAllx0
import Derived.Test.YtpjenhojldcmiaaIAllx1
namespace Go.Proofs.Ytpjenhojldcmiaa.IAll
open Go.RowKit Go.Proofs.YtpjenhojldcmiaaW.PrintWords Go.Proofs.YtpjenhojldcmiaaW.PrintLast Go.Proofs.YtpjenhojldcmiaaW.PrintMore
attribute [local go_sem] max2_int min2_int max_two min_two max_three min_three max_four min_four   -- for this text's walks alone
set_option linter.unusedVariables false
set_option linter.unusedSimpArgs false

theorem eqA22 (d : Nat) (w : World) (x0 y0 : Int) (x1 y1 : Int) :
    (Op.equalIn (d + 2) 22 (.agg #[.int .i64 x0, .int .i64 x1]) (.agg #[.int .i64 y0, .int .i64 y1])).run Try.prog w = .ok (x0 == y0 && (x1 == y1)) w := by
  obtain ⟨i, hi⟩ := Option.isSome_iff_exists.1 (show (Try.prog.info? 3).isSome = true by kernel_rfl)
  refine eqArr_of Try.underlying22 hi (show Try.prog.cellsOf 3 = 1 by kernel_rfl) (by rfl) ?_
  refine eqi_cons (by go_simp; rfl) (by go_simp; rfl) (by go_simp) ?_
  exact eqi_last (by go_simp; rfl) (by go_simp; rfl) (by go_simp)
theorem eqA23 (d : Nat) (w : World) (x0 y0 : Bool) (x1 y1 : Bool) :
    (Op.equalIn (d + 2) 23 (.agg #[.bool x0, .bool x1]) (.agg #[.bool y0, .bool y1])).run Try.prog w = .ok (x0 == y0 && (x1 == y1)) w := by
  obtain ⟨i, hi⟩ := Option.isSome_iff_exists.1 (show (Try.prog.info? 4).isSome = true by kernel_rfl)
  refine eqArr_of Try.underlying23 hi (show Try.prog.cellsOf 4 = 1 by kernel_rfl) (by rfl) ?_
  refine eqi_cons (by go_simp; rfl) (by go_simp; rfl) (by go_simp) ?_
  exact eqi_last (by go_simp; rfl) (by go_simp; rfl) (by go_simp)
theorem eqA29 (d : Nat) (w : World) (x0 y0 : Int) (x1 y1 : Int) (x2 y2 : Int) (x3 y3 : Bool) (x4 y4 : Bool) (x5 y5 : Bool) (x6 y6 : Int) (x7 y7 : Int) :
    (Op.equalIn (d + 4) 29 (.agg #[.int .i64 x0, .int .i64 x1, .int .i64 x2, .bool x3, .bool x4, .bool x5, .int .u32 x6, .int .u32 x7]) (.agg #[.int .i64 y0, .int .i64 y1, .int .i64 y2, .bool y3, .bool y4, .bool y5, .int .u32 y6, .int .u32 y7])).run Try.prog w = .ok (x0 == y0 && ((x1 == y1 && (x2 == y2)) && ((x3 == y3 && (x4 == y4)) && (x5 == y5 && (((x6 == y6 && (x7 == y7)))))))) w := by
  refine eqA_of Try.underlying29 (by kernel_rfl) ?_
  refine eqf_cons (by rfl) (by go_simp; rfl) (by go_simp; rfl) (by go_simp) ?_
  refine eqf_cons (by rfl) (by go_simp) (by go_simp) (eqA22 (d + 1) w _ _ _ _) ?_
  refine eqf_cons (by rfl) (by go_simp) (by go_simp) (eqA23 (d + 1) w _ _ _ _) ?_
  refine eqf_cons (by rfl) (by go_simp; rfl) (by go_simp; rfl) (by go_simp) ?_
  exact eqf_last (by rfl) (by go_simp) (by go_simp) (eqA27 (d + 0) w _ _ _ _)
end Go.Proofs.Ytpjenhojldcmiaa.IAll
