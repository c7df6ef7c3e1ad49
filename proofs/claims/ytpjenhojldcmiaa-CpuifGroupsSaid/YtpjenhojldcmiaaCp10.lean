/- Contracts by hand: what the document is told of an interface; is an interface what the document's is? -/
import Derived.Test.YtpjenhojldcmiaaCp6
import Derived.Test.YtpjenhojldcmiaaArrEq
namespace Go.Proofs.Ytpjenhojldcmiaa
open Go.RowKit Go.Shelf
attribute [local go_sem] Oper.semAt_some cell_row frozen_row isRow_setCell_eq rowAt_setCell_same rowAt_setCell_other isRow_alloc_eq rowAt_alloc rowAt_new isRow_setRow_eq rowAt_setRow_same rowAt_setRow_other isRow_drew rowAt_drew size_setRow_ Lb_size Lb_at blk_ptr aggOf_agg below_alloc_r below_setCell_r below_setRow_r below_drew_r le_add_r RC_size RC_get0 RC_at0 RC_set0 RC_get1 RC_at1 RC_set1 RC_get2 RC_at2 RC_set2 RC_get3 RC_at3 RC_set3 RC_get4 RC_at4 RC_set4 RC_get5 RC_at5 RC_set5 zeroF RC_ext RC_spl RC_one offv_ptr one_lad zero_lad allOne_nil allOne_cons Value.oneCell' zero_rc
attribute [local go_sem ↓] loadF storeF loadA storeA loadM storeM
theorem eq2i (d : Nat) (w : World) (x0 y0 : Int) (x1 y1 : Int) :
    (Op.equalIn (d + 2) 22 (.agg #[.int .i64 x0, .int .i64 x1]) (.agg #[.int .i64 y0, .int .i64 y1])).run Try.prog w = .ok (x0 == y0 && (x1 == y1)) w := by
  obtain ⟨i, hi⟩ := Option.isSome_iff_exists.1 (show (Try.prog.info? 3).isSome = true by kernel_rfl)
  refine eqArr_of Try.underlying22 hi (show Try.prog.cellsOf 3 = 1 by kernel_rfl) (by rfl) ?_
  refine eqi_cons (by go_simp; rfl) (by go_simp; rfl) (by go_simp) ?_
  exact eqi_last (by go_simp; rfl) (by go_simp; rfl) (by go_simp)
theorem eq2b (d : Nat) (w : World) (x0 y0 : Bool) (x1 y1 : Bool) :
    (Op.equalIn (d + 2) 23 (.agg #[.bool x0, .bool x1]) (.agg #[.bool y0, .bool y1])).run Try.prog w = .ok (x0 == y0 && (x1 == y1)) w := by
  obtain ⟨i, hi⟩ := Option.isSome_iff_exists.1 (show (Try.prog.info? 4).isSome = true by kernel_rfl)
  refine eqArr_of Try.underlying23 hi (show Try.prog.cellsOf 4 = 1 by kernel_rfl) (by rfl) ?_
  refine eqi_cons (by go_simp; rfl) (by go_simp; rfl) (by go_simp) ?_
  exact eqi_last (by go_simp; rfl) (by go_simp; rfl) (by go_simp)
theorem builtF (m p0 p1 : Int) (o0 o1 sp : Bool) (f : Nat → Bool) : Try.prog.built 61 [(0, .int .i64 m), (1, .agg #[.int .i64 p0, .int .i64 p1]), (2, .agg #[.bool o0, .bool o1]), (3, .bool sp), (4, .agg (Lb f))] = some (RC m p0 p1 o0 o1 sp f) := by kernel_rfl
end Go.Proofs.Ytpjenhojldcmiaa
