-- Written by the program wip/gen/clears.py of this repository, out of the translation, for this claim. Not trusted: Lean checks it.
import Derived.Test.YtafmacngboeanaaIAllx0
import Derived.Test.YtafmacngboeanaaIAllx1
import Derived.Test.YtafmacngboeanaaIAllx4
namespace Go.Proofs.Ytafmacngboeanaa.IAll
open Go.RowKit Go.Proofs.YtafmacngboeanaaW.PrintWords Go.Proofs.YtafmacngboeanaaW.PrintLast Go.Proofs.YtafmacngboeanaaW.PrintMore
attribute [local go_sem] max2_int min2_int max_two min_two max_three min_three max_four min_four
set_option linter.unusedVariables false
set_option linter.unusedSimpArgs false

theorem eqS24 (w : World) (x0 y0 x1 y1 : Int) : (Op.equalIn 9999 24 (.agg #[.int .u32 x0, .int .u32 x1]) (.agg #[.int .u32 y0, .int .u32 y1])).run Try.prog w = .ok (x0 == y0 && (x1 == y1)) w := eqA24 9997 w x0 y0 x1 y1
theorem ite_ok (b : Bool) (w : World) : (if b = false then Result.ok false w else Result.ok true w) = (Result.ok b w : Result Bool) := by cases b <;> rfl
/-! ### crierlaw08_LadderClears: function 7 -/
def crierlaw08_LadderClears.j0 : Nat → Bool → Bool → Int → Int → Int → Int → Int → Int → Int → Int → Int → Int → Option (Bool)
  | 0, _, _, _, _, _, _, _, _, _, _, _, _ => none
  | k + 1, x9, x12, x139000, x139001, x139002, x140000, x140001, x140002, x147000, x147001, x150000, x150001 => (ladder_Ladder_Push.f x147000 x147001 x139001 x139002).bind fun bt150 => ((ladder_Ladder_Clear.f bt150.1 bt150.2 x139001 x139002).bind fun bt152 => (if x9 = true then ((ladder_Ladder_Has.f x150000 x150001 x139001 x139002).bind fun t155 => (if t155 = true then (some false) else (if x12 = true then (if ((bt152.1 == x150000 && (bt152.2 == x150001))) = true then ((ladder_Ladder_Has.f x147000 x147001 x139001 x139002).bind fun t156 => (if t156 = true then (some true) else (some ((x150000 == x147000 && (x150001 == x147001)))))) else (some false)) else ((ladder_Ladder_Has.f x150000 x150001 x140001 x140002).bind fun t157 => ((ladder_Ladder_Has.f x147000 x147001 x140001 x140002).bind fun t158 => (if (t157 == t158) = true then (if ((bt152.1 == x150000 && (bt152.2 == x150001))) = true then ((ladder_Ladder_Has.f x147000 x147001 x139001 x139002).bind fun t159 => (if t159 = true then (some true) else (some ((x150000 == x147000 && (x150001 == x147001)))))) else (some false)) else (some false))))))) else (some false)))
def crierlaw08_LadderClears.f (k : Nat) (a0 : Int) (a1 : Int) (a2_0 : Int) (a2_1 : Int) (a2_2 : Int) (a3_0 : Int) (a3_1 : Int) (a3_2 : Int) : Option (Bool) := (crierlaw08_awake.f k).bind fun t140 => (if t140 = true then ((ladder_Of.f (([a0, a1] : List Int))).bind fun bt144 => ((ladder_Ladder_Clear.f bt144.1 bt144.2 a2_1 a2_2).bind fun bt147 => (if (Go.bits .and .i64 a2_1 1) = (Go.bits .and .i64 a3_1 1) then (crierlaw08_LadderClears.j0 k t140 ((Go.bits .and .i64 a2_2 248) == (Go.bits .and .i64 a3_2 248)) a2_0 a2_1 a2_2 a3_0 a3_1 a3_2 bt144.1 bt144.2 bt147.1 bt147.2) else (crierlaw08_LadderClears.j0 k t140 false a2_0 a2_1 a2_2 a3_0 a3_1 a3_2 bt144.1 bt144.2 bt147.1 bt147.2)))) else (some false))
theorem crierlaw08_LadderClears.mono_l : ∀ k, (∀ y0 y1 y2 y3 y4 y5 y6 y7 y8 y9 y10 y11, LeO (crierlaw08_LadderClears.j0 k y0 y1 y2 y3 y4 y5 y6 y7 y8 y9 y10 y11) (crierlaw08_LadderClears.j0 (k + 1) y0 y1 y2 y3 y4 y5 y6 y7 y8 y9 y10 y11))
  | 0 => fun _ _ _ _ _ _ _ _ _ _ _ _ r h => by simp [crierlaw08_LadderClears.j0] at h
  | k + 1 => by
    have ih0 := crierlaw08_LadderClears.mono_l k
    · intro y0 y1 y2 y3 y4 y5 y6 y7 y8 y9 y10 y11
      unfold crierlaw08_LadderClears.j0
      repeat' first
      | (with_reducible exact ih0 _ _ _ _ _ _ _ _ _ _ _ _)
      | (with_reducible exact crierlaw08_awake.mono _)
      | (with_reducible exact LeO.refl _)
      | (with_reducible exact LeO.none _)
      | (with_reducible refine LeO.ite ?_ ?_)
      | (with_reducible refine LeO.bind ?_ (fun _ => ?_))
      | exact ih0 _ _ _ _ _ _ _ _ _ _ _ _
      | exact crierlaw08_awake.mono _
      | exact LeO.none _
      | refine LeO.ite ?_ ?_
      | refine LeO.bind ?_ (fun _ => ?_)
theorem crierlaw08_LadderClears.mono : ∀ a0 a1 a2 a3 a4 a5 a6 a7 k, LeO (crierlaw08_LadderClears.f k a0 a1 a2 a3 a4 a5 a6 a7) (crierlaw08_LadderClears.f (k + 1) a0 a1 a2 a3 a4 a5 a6 a7) := by
  intro a0 a1 a2 a3 a4 a5 a6 a7 k
  have ih0 := crierlaw08_LadderClears.mono_l k
  unfold crierlaw08_LadderClears.f
  repeat' first
      | (with_reducible exact ih0 _ _ _ _ _ _ _ _ _ _ _ _)
      | (with_reducible exact crierlaw08_awake.mono _)
      | (with_reducible exact LeO.refl _)
      | (with_reducible exact LeO.none _)
      | (with_reducible refine LeO.ite ?_ ?_)
      | (with_reducible refine LeO.bind ?_ (fun _ => ?_))
      | exact ih0 _ _ _ _ _ _ _ _ _ _ _ _
      | exact crierlaw08_awake.mono _
      | exact LeO.none _
      | refine LeO.ite ?_ ?_
      | refine LeO.bind ?_ (fun _ => ?_)
def crierlaw08_LadderClears.T7 : Bool × List (List Nat × List Nat) := (true, [([], []), ([], []), ([1], [1]), ([], []), ([3], [3]), ([0, 2, 4], [0, 2, 4]), ([], []), ([6], [6]), ([], []), ([8], [8]), ([5, 7, 9, 5], [5, 7, 9]), ([], []), ([11, 10, 10, 0, 1, 2, 3, 4, 5, 6, 7, 8, 9, 10, 11], [10, 11])])
def crierlaw08_LadderClears.B7 : List Nat := [0, 0, 2, 0, 8, 31, 0, 64, 0, 256, 1023, 0, 4095]
theorem crierlaw08_LadderClears.tab7 : rtab .any (opsOf Try.f7 7) = crierlaw08_LadderClears.T7 := by kernel_rfl
theorem crierlaw08_LadderClears.bits7 : waitsOk crierlaw08_LadderClears.T7.2 crierlaw08_LadderClears.B7 = true := by kernel_rfl
def crierlaw08_LadderClears.T8 : Bool × List (List Nat × List Nat) := (true, [([], []), ([0], [0]), ([1], [1]), ([1], [1]), ([3, 1], [1, 3]), ([1], [1]), ([5, 1], [1, 5]), ([2, 4, 6, 1, 1], [1, 2, 4, 6]), ([7, 1], [1, 7]), ([1, 8], [1, 8]), ([9, 7], [9]), ([10], [10]), ([11, 10, 10], [10, 11]), ([12], [12]), ([12], [12]), ([14, 12], [12, 14]), ([12], [12]), ([16, 12], [12, 16]), ([13, 15, 17, 12, 12], [12, 13, 15, 17]), ([12], [12]), ([12], [12]), ([20, 12], [12, 20]), ([12], [12]), ([22, 12], [12, 22]), ([19, 21, 23, 18, 12], [12, 19, 21, 23]), ([18, 24, 12], [12, 18, 24]), ([12, 25, 10], [10, 12, 25]), ([10, 26], [10, 26]), ([27, 24], [27]), ([28], [28]), ([28], [28]), ([29, 30, 28], [28, 29, 30]), ([28, 31], [28, 31]), ([32, 28], [32]), ([33], [33]), ([33], [33]), ([35, 33], [33, 35]), ([33], [33]), ([37, 33], [33, 37]), ([34, 36, 38, 33, 33], [33, 34, 36, 38]), ([39, 39, 33], [33, 39]), ([40], [40]), ([40], [40]), ([41, 42, 40], [40, 41, 42]), ([40, 43, 33], [33, 40, 43]), ([33, 44], [33, 44]), ([45, 40, 0, 1, 2, 3, 4, 5, 6, 7, 8, 9, 10, 11, 12, 13, 14, 15, 16, 17, 18, 19, 20, 21, 22, 23, 24, 25, 26, 27, 28, 29, 30, 31, 32, 33, 34, 35, 36, 37, 38, 39, 40, 41, 42, 43, 44, 45], [45])])
def crierlaw08_LadderClears.B8 : List Nat := [0, 1, 3, 3, 11, 3, 35, 127, 255, 511, 1023, 2047, 4095, 8191, 8191, 24575, 8191, 73727, 262143, 8191, 8191, 1056767, 8191, 4202495, 16777215, 33554431, 67108863, 134217727, 268435455, 536870911, 536870911, 2147483647, 4294967295, 8589934591, 17179869183, 17179869183, 51539607551, 17179869183, 154618822655, 549755813887, 1099511627775, 2199023255551, 2199023255551, 8796093022207, 17592186044415, 35184372088831, 70368744177663]
theorem crierlaw08_LadderClears.tab8 : rtab .any (opsOf Try.f7 8) = crierlaw08_LadderClears.T8 := by kernel_rfl
theorem crierlaw08_LadderClears.bits8 : waitsOk crierlaw08_LadderClears.T8.2 crierlaw08_LadderClears.B8 = true := by kernel_rfl

end Go.Proofs.Ytafmacngboeanaa.IAll
