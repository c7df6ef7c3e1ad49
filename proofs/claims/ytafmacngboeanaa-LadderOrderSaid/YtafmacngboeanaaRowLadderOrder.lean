/- In whatever order priorities are pushed, the ladder is the same: the row. -/
import Derived.Test.YtafmacngboeanaaRows
import Derived.Test.YtafmacngboeanaaPureOrder
import Derived.Test.YtafmacngboeanaaOpenRows
namespace Go.Proofs.Ytafmacngboeanaa.ladderOrder
open Go.ChangeShapes Go.WideShapes Go.ChangeAt Go.RowKit Go.Proofs.Ytafmacngboeanaa.IAll Go.Proofs.YtafmacngboeanaaW.PrintWords
theorem own : ownKnob Try.prog.godebug = none := by kernel_rfl
theorem laidOut : laidOutB Try.prog = true := by kernel_rfl
theorem leaves39 : leaves Try.prog 3 39 = [(0, .int .i64), (1, .int .i64), (2, .int .i64)] := by rfl
theorem cells39 : Try.prog.cellsOf 39 = 3 := by kernel_rfl
theorem open39 {H : Type} {enc : TypeId × Value → H} {w : World} {base : Nat} {spare : Nat → Bool} {held : Bool} (m : Nat) (c : List Value) (y : DataW H × List MemPlace)
    (h : DataW.trod enc Try.prog w base spare held m 39 c = some y) (hl : c.length = 3) : ∃ p : S39, k39.K w p c ∧ True := by
  have hk := leaf_ok 3 m 39 _ _ h
  rw [leaves39] at hk
  obtain ⟨v0, h0, a, rfl, _⟩ := hk 0 (.int .i64) (by simp)
  obtain ⟨v1, h1, b, rfl, _⟩ := hk 1 (.int .i64) (by simp)
  obtain ⟨v2, h2, d, rfl, _⟩ := hk 2 (.int .i64) (by simp)
  refine ⟨⟨a, b, d⟩, ?_, trivial⟩
  match c, hl with
  | [x, y, z], _ =>
    simp at h0 h1 h2
    subst h0; subst h1; subst h2
    exact k39_mk w ⟨a, b, d⟩
set_option maxRecDepth 100000 in
theorem lifted (os : Os) (started : os.Started) (H : Type) (enc : TypeId × Value → H) :
    ReturnsInHanded {} Try.checked os 5 .any (Rows.ladderOrderSpec.pre6 enc Try.prog Try.f5 Rows.ladderOrderRow.domain false) (Rows.ladderOrderSpec.post enc Try.prog Try.f5 false true false false) := by
  refine returnsInHanded_of_change_sized (C := Try.checked) own started (by kernel_rfl) Try.func5
    (ChangeSpec.witness6 (enc := enc) (C := Try.checked) false ⟨#[], #[.slice none 0 0], []⟩ 8 (by kernel_rfl) (by kernel_rfl) (by kernel_rfl) (by kernel_rfl)) ?_
  intro W base args ds gs before hval0 hW hcnd hsz0 _
  have hval : ∀ (j : Nat) t v, Try.f5.params[j]? = some t → args[j]? = some v → Value.okWide Try.prog W .any base t v := hval0
  have hW' := hW
  obtain ⟨p, q, hA0, hV, rfl, hfz, hnd⟩ := hW
  have hA : DataW.TrodAll enc Try.prog W 0 (fun _ => true) true Try.f5.params.toList args.toList ds p := hA0
  rw [Try.params5] at hA hval
  have hA' := hA
  obtain ⟨v0, vs0, d0, ds0, p0, q0, hargs, rfl, rfl, h0, r0⟩ := trodAll_cons hA
  obtain ⟨rfl, rfl, rfl⟩ := trodAll_nil r0
  obtain rfl : args = #[v0] := by cases args; simp_all
  obtain ⟨rfl, rfl⟩ := trodVars_none hV
  obtain ⟨a0, len0, cap0, rfl⟩ := okWide_slice Try.underlying37 (hval 0 37 v0 rfl rfl)
  obtain ⟨xs, hxl, hlc, hlm, hrd⟩ : ∃ xs : List S39, xs.length = len0 ∧ len0 ≤ cap0 ∧ cap0 ≤ maxLen ∧ (0 < len0 → ∃ ad, a0 = some ad ∧ ∀ j p, xs[j]? = some p → ∃ c, c.length = 3 ∧ k39.K W p c ∧ ∀ i u, c[i]? = some u → W.cell? (ad.add (j * 3 + i)) = some u) := by
    obtain ⟨fuel, hf⟩ := h0
    obtain ⟨A, len, cap, xs, hcs, h1, h2, h3, h4, -⟩ := open_rows (fun p c => k39.K W p c) (fun _ => True) Try.underlying37 cells39 open39 hf
    simp [Value.cells] at hcs
    obtain ⟨rfl, rfl, rfl⟩ := hcs
    exact ⟨xs, h3, h1, h2, h4⟩
  clear hA0 hval0 hsz0
  subst hxl
  have hml : xs.length ≤ 9223372036854775807 := Nat.le_trans hlc (Nat.le_trans hlm (by unfold maxLen; omega))
  obtain ⟨k, hk⟩ := Pure.LadderOrder xs hml
  refine (crierlaw08_LadderOrder.calls k a0 cap0 xs true W ⟨rfl, hml, hrd⟩ hlc hk).mono fun e W' ⟨he, bel⟩ => ?_
  subst he
  exact ⟨_, rfl, _, _, _, [], _, [], hW', trodAll_mk1 (shut_bool Try.underlying4 _), trodAll_back laidOut bel _ _ _ _ (by intro t ht; simp at ht; subst ht; exact ⟨by kernel_rfl, of_decide_eq_true (by kernel_rfl)⟩) hA', rfl, bel.frame _, fun h => by cases h⟩
theorem over : Rows.ladderOrderRow.holds Try.pinned (OpenSpec.ofChange Rows.ladderOrderSpec) :=
  OpenClaim.holds_of_wide 5 Try.f5 rfl rfl rfl rfl rfl rfl rfl ⟨rfl, rfl, rfl, rfl, rfl⟩ rfl rfl rfl rfl rfl (by kernel_rfl) Try.func5 (by kernel_rfl)
    (of_decide_eq_true (by kernel_rfl)) (by unfold Func.isWrapper; first | (rw [if_pos (by decide +kernel)]; kernel_rfl) | (rw [if_neg (by decide +kernel)]; exact ⟨rfl, rfl⟩))
    (fun os started H enc _ => lifted os started H enc)
theorem proved : Rows.LadderOrderSaid := over
end Go.Proofs.Ytafmacngboeanaa.ladderOrder
namespace Go.Proofs.Ytafmacngboeanaa
theorem ladderOrder_holds : Rows.LadderOrderSaid := ladderOrder.proved
end Go.Proofs.Ytafmacngboeanaa
