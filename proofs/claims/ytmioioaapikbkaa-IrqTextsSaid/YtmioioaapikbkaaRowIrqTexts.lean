/- The row of the law IrqTexts. Written by the program wip/gen/row.py of this repository. -/
import Derived.Test.YtmioioaapikbkaaRows
import Derived.Test.YtmioioaapikbkaaPureIrqTexts
import Derived.Test.YtmioioaapikbkaaOpenRows
namespace Go.Proofs.Ytmioioaapikbkaa.irqTexts
open Go.ChangeShapes Go.WideShapes Go.ChangeAt Go.RowKit Go.Proofs.YtmioioaapikbkaaW.PrintWords
open Go.ChangeMaps (open_string shut_string)
theorem own : ownKnob Try.prog.godebug = none := by kernel_rfl
theorem laidOut : laidOutB Try.prog = true := by kernel_rfl
theorem leaves23 : leaves Try.prog 5 23 = [(0, .bool), (1, .bool), (2, .bool), (3, .bool)] := by rfl
theorem cells23 : Try.prog.cellsOf 23 = 4 := by kernel_rfl
theorem open23 {H : Type} {enc : TypeId × Value → H} {w : World} {base b0 : Nat} {spare : Nat → Bool} {held : Bool} {r : Reach} {v : Value} {d : DataW H} {p : List MemPlace}
    (hv : Value.okWide Try.prog w r b0 23 v) (h : DataW.Trod enc Try.prog w base spare held 23 v d p) :
    ∃ (x0 : Bool) (x1 : Bool) (x2 : Bool) (x3 : Bool), v = .agg #[.bool x0, .bool x1, .bool x2, .bool x3] ∧ True := by
  obtain ⟨cs, rfl, hs⟩ := okWide_struct Try.underlying23 hv
  obtain ⟨fuel, hf⟩ := h
  have hl := leaf_ok 5 fuel 23 _ _ hf
  rw [leaves23] at hl
  obtain ⟨v0, h0, x0, rfl⟩ := hl 0 (.bool) (by simp)
  obtain ⟨v1, h1, x1, rfl⟩ := hl 1 (.bool) (by simp)
  obtain ⟨v2, h2, x2, rfl⟩ := hl 2 (.bool) (by simp)
  obtain ⟨v3, h3, x3, rfl⟩ := hl 3 (.bool) (by simp)
  rw [cells23] at hs
  refine ⟨x0, x1, x2, x3, ?_, trivial⟩
  congr 1
  obtain ⟨l⟩ := cs
  simp [Value.cells] at h0 h1 h2 h3 hs
  match l, hs with
  | [y0, y1, y2, y3], _ => simp at h0 h1 h2 h3; simp [h0, h1, h2, h3]
set_option maxRecDepth 100000 in
theorem lifted (os : Os) (started : os.Started) (H : Type) (enc : TypeId × Value → H) :
    ReturnsInHanded {} Try.checked os 7 .any (Rows.irqTextsSpec.pre6 enc Try.prog Try.f7 Rows.irqTextsRow.domain false) (Rows.irqTextsSpec.post enc Try.prog Try.f7 false true false false) := by
  refine returnsInHanded_of_change_sized (C := Try.checked) own started (by kernel_rfl) Try.func7
    (ChangeSpec.witness6 (enc := enc) (C := Try.checked) false ⟨#[], #[.string ByteArray.empty, .agg #[.bool false, .bool false, .bool false, .bool false], .agg #[.bool false, .bool false, .bool false, .bool false]], []⟩ 8 (by kernel_rfl) (by kernel_rfl) (by kernel_rfl) (by kernel_rfl)) ?_
  intro W base args ds gs before hval0 hW hcnd hsz0 _
  have hval : ∀ (j : Nat) t v, Try.f7.params[j]? = some t → args[j]? = some v → Value.okWide Try.prog W .any base t v := hval0
  have hW' := hW
  obtain ⟨p, q, hA0, hV, rfl, hfz, hnd⟩ := hW
  have hA : DataW.TrodAll enc Try.prog W 0 (fun _ => true) true Try.f7.params.toList args.toList ds p := hA0
  rw [Try.params7] at hA hval
  have hA' := hA
  obtain ⟨v0, vs0, d0, ds0, p0, q0, hargs, rfl, rfl, h0, r0⟩ := trodAll_cons hA
  obtain ⟨v1, vs1, d1, ds1, p1, q1, rfl, rfl, rfl, h1, r1⟩ := trodAll_cons r0
  obtain ⟨v2, vs2, d2, ds2, p2, q2, rfl, rfl, rfl, h2, r2⟩ := trodAll_cons r1
  obtain ⟨rfl, rfl, rfl⟩ := trodAll_nil r2
  obtain rfl : args = #[v0, v1, v2] := by cases args; simp_all
  obtain ⟨rfl, rfl⟩ := trodVars_none hV
  obtain ⟨a0, rfl, rfl, rfl, w0⟩ := open_string Try.underlying9 (hval 0 9 v0 rfl rfl) h0
  obtain ⟨a1_0, a1_1, a1_2, a1_3, rfl, -⟩ := open23 (hval 1 23 v1 rfl rfl) h1
  obtain ⟨a2_0, a2_1, a2_2, a2_3, rfl, -⟩ := open23 (hval 2 23 v2 rfl rfl) h2
  clear hA0 hval0 hsz0
  refine (Pure.irqTexts_both a0 a1_0 a1_1 a1_2 a1_3 a2_0 a2_1 a2_2 a2_3 w0 W).mono fun e W' ⟨he, bel⟩ => ?_
  subst he
  exact ⟨_, rfl, _, _, _, [], _, [], hW', trodAll_mk1 (shut_bool Try.underlying4 _), trodAll_back laidOut bel _ _ _ _ (by intro t ht; simp at ht; rcases ht with rfl | rfl <;> exact ⟨by kernel_rfl, of_decide_eq_true (by kernel_rfl)⟩) hA', rfl, bel.frame _, fun h => by cases h⟩
theorem over : Rows.irqTextsRow.holds Try.pinned (OpenSpec.ofChange Rows.irqTextsSpec) :=
  OpenClaim.holds_of_wide 7 Try.f7 rfl rfl rfl rfl rfl rfl rfl ⟨rfl, rfl, rfl, rfl, rfl⟩ rfl rfl rfl rfl rfl (by kernel_rfl) Try.func7 (by kernel_rfl)
    (of_decide_eq_true (by kernel_rfl)) (by unfold Func.isWrapper; first | (rw [if_pos (by decide +kernel)]; kernel_rfl) | (rw [if_neg (by decide +kernel)]; exact ⟨rfl, rfl⟩))
    (fun os started H enc _ => lifted os started H enc)
theorem proved : Rows.IrqTextsSaid := over
end Go.Proofs.Ytmioioaapikbkaa.irqTexts
namespace Go.Proofs.Ytmioioaapikbkaa
theorem irqTexts_holds : Rows.IrqTextsSaid := irqTexts.proved
end Go.Proofs.Ytmioioaapikbkaa
