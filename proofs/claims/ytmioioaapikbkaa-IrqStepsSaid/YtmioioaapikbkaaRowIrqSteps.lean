/- The row of the law IrqSteps. Written by the program wip/gen/row.py of this repository. -/
import Derived.Test.YtmioioaapikbkaaRows
import Derived.Test.YtmioioaapikbkaaPIrqSteps
import Derived.Test.YtmioioaapikbkaaOpenRows
namespace Go.Proofs.Ytmioioaapikbkaa.irqSteps
open Go.ChangeShapes Go.WideShapes Go.ChangeAt Go.RowKit Go.Proofs.YtmioioaapikbkaaW.PrintWords
open Go.ChangeMaps (open_string shut_string)
theorem own : ownKnob Try.prog.godebug = none := by kernel_rfl
theorem laidOut : laidOutB Try.prog = true := by kernel_rfl
set_option maxRecDepth 100000 in
theorem leaves23 : leaves Try.prog 5 23 = [(0, .bool), (1, .bool), (2, .bool), (3, .bool)] := by rfl
theorem cells23 : Try.prog.cellsOf 23 = 4 := by kernel_rfl
set_option maxRecDepth 100000 in
theorem open23 {H : Type} {enc : TypeId × Value → H} {w : World} {base b0 : Nat} {spare : Nat → Bool} {held : Bool} {r : Reach} {v : Value} {d : DataW H} {p : List MemPlace}
    (hv : Value.okWide Try.prog w r b0 23 v) (h : DataW.Trod enc Try.prog w base spare held 23 v d p) :
    ∃ (x0 : Bool) (x1 : Bool) (x2 : Bool) (x3 : Bool), v = .agg #[.bool x0, .bool x1, .bool x2, .bool x3] ∧ True := by
  obtain ⟨cs, rfl, hs⟩ := okWide_struct Try.underlying23 hv
  obtain ⟨fuel, hf⟩ := h
  have hl := leaf_ok 5 fuel 23 _ _ hf
  rw [leaves23] at hl
  obtain ⟨v0, h0, x0, rfl⟩ := hl 0 (.bool) (by simp)
  obtain ⟨v1, h1, x1, rfl⟩ := hl 1 (.bool) (by simp)
  obtain ⟨v2, h2, x2, rfl⟩ := hl 2 (.bool) (by simp)
  obtain ⟨v3, h3, x3, rfl⟩ := hl 3 (.bool) (by simp)
  rw [cells23] at hs
  refine ⟨x0, x1, x2, x3, ?_, trivial⟩
  congr 1
  obtain ⟨l⟩ := cs
  simp [Value.cells] at h0 h1 h2 h3 hs
  match l, hs with
  | [y0, y1, y2, y3], _ => simp at h0 h1 h2 h3; simp [h0, h1, h2, h3]
set_option maxRecDepth 100000 in
theorem leaves26 : leaves Try.prog 5 26 = [(0, .int .i64)] := by rfl
theorem cells26 : Try.prog.cellsOf 26 = 1 := by kernel_rfl
set_option maxRecDepth 100000 in
theorem row26 {H : Type} {enc : TypeId × Value → H} {w : World} {base : Nat} {spare : Nat → Bool} {held : Bool} (m : Nat) (c : List Value) (y : DataW H × List MemPlace)
    (h : DataW.trod enc Try.prog w base spare held m 26 c = some y) (hl : c.length = 1) : ∃ p : Int, (Kd.int .i64).K w p c ∧ (Lit.int .i64 p).wf = true := by
  have hk := leaf_ok 5 m 26 _ _ h
  rw [leaves26] at hk
  obtain ⟨v0, h0, x0, rfl, w0⟩ := hk 0 (.int .i64) (by simp)
  refine ⟨x0, ?_, w0⟩
  match c, hl with
  | [y0], _ =>
    simp at h0
    subst h0
    exact rfl
set_option maxRecDepth 100000 in
theorem lifted (os : Os) (started : os.Started) (H : Type) (enc : TypeId × Value → H) :
    ReturnsInHanded {} Try.checked os 8 .any (Rows.irqStepsSpec.pre6 enc Try.prog Try.f8 Rows.irqStepsRow.domain false) (Rows.irqStepsSpec.post enc Try.prog Try.f8 false true false false) := by
  refine returnsInHanded_of_change_sized (C := Try.checked) own started (by kernel_rfl) Try.func8
    (ChangeSpec.witness6 (enc := enc) (C := Try.checked) false ⟨#[], #[.agg #[.bool false, .bool false, .bool false, .bool false], .slice none 0 0], []⟩ 8 (by kernel_rfl) (by kernel_rfl) (by kernel_rfl) (by kernel_rfl)) ?_
  intro W base args ds gs before hval0 hW hcnd hsz0 _
  have hval : ∀ (j : Nat) t v, Try.f8.params[j]? = some t → args[j]? = some v → Value.okWide Try.prog W .any base t v := hval0
  have hW' := hW
  obtain ⟨p, q, hA0, hV, rfl, hfz, hnd⟩ := hW
  have hA : DataW.TrodAll enc Try.prog W 0 (fun _ => true) true Try.f8.params.toList args.toList ds p := hA0
  rw [Try.params8] at hA hval
  have hA' := hA
  obtain ⟨v0, vs0, d0, ds0, p0, q0, hargs, rfl, rfl, h0, r0⟩ := trodAll_cons hA
  obtain ⟨v1, vs1, d1, ds1, p1, q1, rfl, rfl, rfl, h1, r1⟩ := trodAll_cons r0
  obtain ⟨rfl, rfl, rfl⟩ := trodAll_nil r1
  obtain rfl : args = #[v0, v1] := by cases args; simp_all
  obtain ⟨rfl, rfl⟩ := trodVars_none hV
  obtain ⟨a0_0, a0_1, a0_2, a0_3, rfl, -⟩ := open23 (hval 0 23 v0 rfl rfl) h0
  obtain ⟨A1, len1, c1, rfl⟩ := okWide_slice Try.underlying27 (hval 1 27 v1 rfl rfl)
  obtain ⟨l1, hx1, hl1, hm1, hr1, hw1⟩ : ∃ xs : List Int, xs.length = len1 ∧ len1 ≤ c1 ∧ c1 ≤ maxLen ∧ (0 < len1 → ∃ ad, A1 = some ad ∧ ∀ j p, xs[j]? = some p → ∃ c, c.length = 1 ∧ (Kd.int .i64).K W p c ∧ ∀ i u, c[i]? = some u → W.cell? (ad.add (j * 1 + i)) = some u) ∧ ∀ p ∈ xs, ((Lit.int .i64 p).wf = true) := by
    obtain ⟨fuel, hf⟩ := h1
    obtain ⟨A, len, cap, xs, hcs, g1, g2, g3, g4, g5⟩ := open_rows (fun p c => (Kd.int .i64).K W p c) (fun p : Int => ((Lit.int .i64 p).wf = true)) Try.underlying27 cells26 row26 hf
    simp [Value.cells] at hcs
    obtain ⟨rfl, rfl, rfl⟩ := hcs
    exact ⟨xs, g3, g1, g2, g4, g5⟩
  subst hx1
  have hn1 : l1.length ≤ 9223372036854775807 := Nat.le_trans hl1 (Nat.le_trans hm1 (by unfold maxLen; omega))
  clear hA0 hval0 hsz0
  refine (Pure.irqSteps_both a0_0 a0_1 a0_2 a0_3 A1 c1 l1 W ⟨rfl, hn1, hr1⟩ hl1 hm1 hw1).mono fun e W' ⟨he, bel⟩ => ?_
  subst he
  exact ⟨_, rfl, _, _, _, [], _, [], hW', trodAll_mk1 (shut_bool Try.underlying4 _), trodAll_back laidOut bel _ _ _ _ (by intro t ht; simp at ht; rcases ht with rfl | rfl <;> exact ⟨by kernel_rfl, of_decide_eq_true (by kernel_rfl)⟩) hA', rfl, bel.frame _, fun h => by cases h⟩
theorem over : Rows.irqStepsRow.holds Try.pinned (OpenSpec.ofChange Rows.irqStepsSpec) :=
  OpenClaim.holds_of_wide 8 Try.f8 rfl rfl rfl rfl rfl rfl rfl ⟨rfl, rfl, rfl, rfl, rfl⟩ rfl rfl rfl rfl rfl (by kernel_rfl) Try.func8 (by kernel_rfl)
    (of_decide_eq_true (by kernel_rfl)) (by unfold Func.isWrapper; first | (rw [if_pos (by decide +kernel)]; kernel_rfl) | (rw [if_neg (by decide +kernel)]; exact ⟨rfl, rfl⟩))
    (fun os started H enc _ => lifted os started H enc)
theorem proved : Rows.IrqStepsSaid := over
end Go.Proofs.Ytmioioaapikbkaa.irqSteps
namespace Go.Proofs.Ytmioioaapikbkaa
theorem irqSteps_holds : Rows.IrqStepsSaid := irqSteps.proved
end Go.Proofs.Ytmioioaapikbkaa
