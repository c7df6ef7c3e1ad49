/- 'Before' is an order: of two unlike interrupts just one comes ahead, of three it leads on: for every input, with no condition. -/
import Derived.Test.YtoldcfgedmjmfaaRows
import Derived.Test.YtoldcfgedmjmfaaOrdW
import Derived.Test.YtoldcfgedmjmfaaRow
namespace Go.Proofs.Ytoldcfgedmjmfaa.prioOrder
open Go.ChangeShapes Go.WideShapes Go.ChangeAt Go.RowKit
theorem own : ownKnob Try.prog.godebug = none := by kernel_rfl
theorem laidOut : laidOutB Try.prog = true := by kernel_rfl
theorem leaves22 : leaves Try.prog 3 22 = [(0, .int .i64), (1, .int .i64), (2, .int .i64)] := by rfl
theorem cells22 : Try.prog.cellsOf 22 = 3 := by kernel_rfl
theorem open3 {H : Type} {enc : TypeId × Value → H} {w : World} {base b0 : Nat} {spare : Nat → Bool} {held : Bool} {r : Reach} {v : Value} {d : DataW H} {p : List MemPlace}
    (hv : Value.okWide Try.prog w r b0 22 v) (h : DataW.Trod enc Try.prog w base spare held 22 v d p) :
    ∃ a b c : Int, v = .agg #[.int .i64 a, .int .i64 b, .int .i64 c] := by
  obtain ⟨cs, rfl, hs⟩ := okWide_arr Try.underlying22 hv
  obtain ⟨fuel, hf⟩ := h
  have hl := leaf_ok 3 fuel 22 _ _ hf
  rw [leaves22] at hl
  obtain ⟨v0, h0, a, rfl, _⟩ := hl 0 (.int .i64) (by simp)
  obtain ⟨v1, h1, b, rfl, _⟩ := hl 1 (.int .i64) (by simp)
  obtain ⟨v2, h2, c, rfl, _⟩ := hl 2 (.int .i64) (by simp)
  rw [cells22] at hs
  refine ⟨a, b, c, ?_⟩
  congr 1
  obtain ⟨l⟩ := cs
  simp [Value.cells] at h0 h1 h2 hs
  match l, hs with
  | [x, y, z], _ => simp at h0 h1 h2; simp [h0, h1, h2]
set_option maxRecDepth 100000 in
theorem lifted (os : Os) (started : os.Started) (H : Type) (enc : TypeId × Value → H) :
    ReturnsInHanded {} Try.checked os 3 .any (Rows.prioOrderSpec.pre6 enc Try.prog Try.f3 Rows.prioOrderRow.domain false) (Rows.prioOrderSpec.post enc Try.prog Try.f3 false true false false) := by
  refine returnsInHanded_of_change_sized (C := Try.checked) own started (by kernel_rfl) Try.func3
    (ChangeSpec.witness6 (enc := enc) (C := Try.checked) false ⟨#[], #[.agg #[.int .i64 0, .int .i64 0, .int .i64 0], .agg #[.int .i64 0, .int .i64 0, .int .i64 0]], []⟩ 8 (by kernel_rfl) (by kernel_rfl) (by kernel_rfl) (by kernel_rfl)) ?_
  intro W base args ds gs before hval0 hW hcnd hsz0 _
  have hval : ∀ (j : Nat) t v, Try.f3.params[j]? = some t → args[j]? = some v → Value.okWide Try.prog W .any base t v := hval0
  have hW' := hW
  obtain ⟨p, q, hA0, hV, rfl, hfz, hnd⟩ := hW
  have hA : DataW.TrodAll enc Try.prog W 0 (fun _ => true) true Try.f3.params.toList args.toList ds p := hA0
  rw [Try.params3] at hA hval
  have hA' := hA
  obtain ⟨v0, vs0, d0, ds0, p0, q0, hargs, rfl, rfl, h0, r0⟩ := trodAll_cons hA
  obtain ⟨v1, vs1, d1, ds1, p1, q1, rfl, rfl, rfl, h1, r1⟩ := trodAll_cons r0
  obtain ⟨rfl, rfl, rfl⟩ := trodAll_nil r1
  obtain rfl : args = #[v0, v1] := by cases args; simp_all
  obtain ⟨rfl, rfl⟩ := trodVars_none hV
  obtain ⟨x0, x1, x2, rfl⟩ := open3 (hval 0 22 v0 rfl rfl) h0
  obtain ⟨y0, y1, y2, rfl⟩ := open3 (hval 1 22 v1 rfl rfl) h1
  clear hA0 hval0 hsz0
  refine (ord_c x0 x1 x2 y0 y1 y2 W).mono fun e W' ⟨he, bel⟩ => ?_
  subst he
  exact ⟨_, rfl, _, _, _, [], _, [], hW', trodAll_mk1 (shut_bool Try.underlying4 _), trodAll_back laidOut bel _ _ _ _ (by intro t ht; simp at ht; subst ht; exact ⟨by kernel_rfl, of_decide_eq_true (by kernel_rfl)⟩) hA', rfl, bel.frame _, fun h => by cases h⟩
theorem over : Rows.prioOrderRow.holds Try.pinned (OpenSpec.ofChange Rows.prioOrderSpec) :=
  OpenClaim.holds_of_wide 3 Try.f3 rfl rfl rfl rfl rfl rfl rfl ⟨rfl, rfl, rfl, rfl, rfl⟩ rfl rfl rfl rfl rfl (by kernel_rfl) Try.func3 (by kernel_rfl)
    (of_decide_eq_true (by kernel_rfl)) (by unfold Func.isWrapper; first | (rw [if_pos (by decide +kernel)]; kernel_rfl) | (rw [if_neg (by decide +kernel)]; exact ⟨rfl, rfl⟩))
    (fun os started H enc _ => lifted os started H enc)
theorem proved : Rows.PrioOrderSaid := over
end Go.Proofs.Ytoldcfgedmjmfaa.prioOrder
namespace Go.Proofs.Ytoldcfgedmjmfaa
theorem prioOrder_holds : Rows.PrioOrderSaid := prioOrder.proved
end Go.Proofs.Ytoldcfgedmjmfaa
