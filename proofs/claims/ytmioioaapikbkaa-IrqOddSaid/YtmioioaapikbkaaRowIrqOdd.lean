/- The row of the law IrqOdd. Written by the program wip/gen/row.py of this repository. -/
import Derived.Test.YtmioioaapikbkaaRows
import Derived.Test.YtmioioaapikbkaaPureIrqOdd
import Derived.Test.YtmioioaapikbkaaOpenRows
namespace Go.Proofs.Ytmioioaapikbkaa.irqOdd
open Go.ChangeShapes Go.WideShapes Go.ChangeAt Go.RowKit Go.Proofs.YtmioioaapikbkaaW.PrintWords
open Go.ChangeMaps (open_string shut_string)
theorem own : ownKnob Try.prog.godebug = none := by kernel_rfl
theorem laidOut : laidOutB Try.prog = true := by kernel_rfl
theorem leaves23 : leaves Try.prog 5 23 = [(0, .bool), (1, .bool), (2, .bool), (3, .bool)] := by rfl
theorem cells23 : Try.prog.cellsOf 23 = 4 := by kernel_rfl
theorem open23 {H : Type} {enc : TypeId × Value → H} {w : World} {base b0 : Nat} {spare : Nat → Bool} {held : Bool} {r : Reach} {v : Value} {d : DataW H} {p : List MemPlace}
    (hv : Value.okWide Try.prog w r b0 23 v) (h : DataW.Trod enc Try.prog w base spare held 23 v d p) :
    ∃ (x0 : Bool) (x1 : Bool) (x2 : Bool) (x3 : Bool), v = .agg #[.bool x0, .bool x1, .bool x2, .bool x3] ∧ True := by
  obtain ⟨cs, rfl, hs⟩ := okWide_struct Try.underlying23 hv
  obtain ⟨fuel, hf⟩ := h
  have hl := leaf_ok 5 fuel 23 _ _ hf
  rw [leaves23] at hl
  obtain ⟨v0, h0, x0, rfl⟩ := hl 0 (.bool) (by simp)
  obtain ⟨v1, h1, x1, rfl⟩ := hl 1 (.bool) (by simp)
  obtain ⟨v2, h2, x2, rfl⟩ := hl 2 (.bool) (by simp)
  obtain ⟨v3, h3, x3, rfl⟩ := hl 3 (.bool) (by simp)
  rw [cells23] at hs
  refine ⟨x0, x1, x2, x3, ?_, trivial⟩
  congr 1
  obtain ⟨l⟩ := cs
  simp [Value.cells] at h0 h1 h2 h3 hs
  match l, hs with
  | [y0, y1, y2, y3], _ => simp at h0 h1 h2 h3; simp [h0, h1, h2, h3]
set_option maxRecDepth 100000 in
theorem lifted (os : Os) (started : os.Started) (H : Type) (enc : TypeId × Value → H) :
    ReturnsInHanded {} Try.checked os 6 .any (Rows.irqOddSpec.pre6 enc Try.prog Try.f6 Rows.irqOddRow.domain false) (Rows.irqOddSpec.post enc Try.prog Try.f6 false true false false) := by
  refine returnsInHanded_of_change_sized (C := Try.checked) own started (by kernel_rfl) Try.func6
    (ChangeSpec.witness6 (enc := enc) (C := Try.checked) false ⟨#[], #[.agg #[.bool false, .bool false, .bool false, .bool false], .int .i64 0], []⟩ 8 (by kernel_rfl) (by kernel_rfl) (by kernel_rfl) (by kernel_rfl)) ?_
  intro W base args ds gs before hval0 hW hcnd hsz0 _
  have hval : ∀ (j : Nat) t v, Try.f6.params[j]? = some t → args[j]? = some v → Value.okWide Try.prog W .any base t v := hval0
  have hW' := hW
  obtain ⟨p, q, hA0, hV, rfl, hfz, hnd⟩ := hW
  have hA : DataW.TrodAll enc Try.prog W 0 (fun _ => true) true Try.f6.params.toList args.toList ds p := hA0
  rw [Try.params6] at hA hval
  have hA' := hA
  obtain ⟨v0, vs0, d0, ds0, p0, q0, hargs, rfl, rfl, h0, r0⟩ := trodAll_cons hA
  obtain ⟨v1, vs1, d1, ds1, p1, q1, rfl, rfl, rfl, h1, r1⟩ := trodAll_cons r0
  obtain ⟨rfl, rfl, rfl⟩ := trodAll_nil r1
  obtain rfl : args = #[v0, v1] := by cases args; simp_all
  obtain ⟨rfl, rfl⟩ := trodVars_none hV
  obtain ⟨a0_0, a0_1, a0_2, a0_3, rfl, -⟩ := open23 (hval 0 23 v0 rfl rfl) h0
  obtain ⟨a1, rfl, rfl, rfl, w1⟩ := open_int Try.underlying26 (hval 1 26 v1 rfl rfl) h1
  clear hA0 hval0 hsz0
  refine (Pure.irqOdd_both a0_0 a0_1 a0_2 a0_3 a1 w1 W).mono fun e W' ⟨he, bel⟩ => ?_
  subst he
  exact ⟨_, rfl, _, _, _, [], _, [], hW', trodAll_mk1 (shut_bool Try.underlying4 _), trodAll_back laidOut bel _ _ _ _ (by intro t ht; simp at ht; rcases ht with rfl | rfl <;> exact ⟨by kernel_rfl, of_decide_eq_true (by kernel_rfl)⟩) hA', rfl, bel.frame _, fun h => by cases h⟩
theorem over : Rows.irqOddRow.holds Try.pinned (OpenSpec.ofChange Rows.irqOddSpec) :=
  OpenClaim.holds_of_wide 6 Try.f6 rfl rfl rfl rfl rfl rfl rfl ⟨rfl, rfl, rfl, rfl, rfl⟩ rfl rfl rfl rfl rfl (by kernel_rfl) Try.func6 (by kernel_rfl)
    (of_decide_eq_true (by kernel_rfl)) (by unfold Func.isWrapper; first | (rw [if_pos (by decide +kernel)]; kernel_rfl) | (rw [if_neg (by decide +kernel)]; exact ⟨rfl, rfl⟩))
    (fun os started H enc _ => lifted os started H enc)
theorem proved : Rows.IrqOddSaid := over
end Go.Proofs.Ytmioioaapikbkaa.irqOdd
namespace Go.Proofs.Ytmioioaapikbkaa
theorem irqOdd_holds : Rows.IrqOddSaid := irqOdd.proved
end Go.Proofs.Ytmioioaapikbkaa
