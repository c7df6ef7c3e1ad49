/- What is cleared does not run, all else does as it did: the row. -/
import Derived.Test.YtafmacngboeanaaRows
import Derived.Test.YtafmacngboeanaaPureClears
import Derived.Test.YtafmacngboeanaaClrT
import Derived.Test.YtafmacngboeanaaClrF
import Derived.Test.YtafmacngboeanaaRow
namespace Go.Proofs.Ytafmacngboeanaa.ladderClears
open Go.ChangeShapes Go.WideShapes Go.ChangeAt Go.RowKit Go.Proofs.Ytafmacngboeanaa.IAll Go.Proofs.YtafmacngboeanaaW.PrintWords
theorem own : ownKnob Try.prog.godebug = none := by kernel_rfl
theorem laidOut : laidOutB Try.prog = true := by kernel_rfl
theorem leaves39 : leaves Try.prog 3 39 = [(0, .int .i64), (1, .int .i64), (2, .int .i64)] := by rfl
theorem cells39 : Try.prog.cellsOf 39 = 3 := by kernel_rfl
theorem open39 {H : Type} {enc : TypeId × Value → H} {w : World} {base b0 : Nat} {spare : Nat → Bool} {held : Bool} {r : Reach} {v : Value} {d : DataW H} {p : List MemPlace}
    (hv : Value.okWide Try.prog w r b0 39 v) (h : DataW.Trod enc Try.prog w base spare held 39 v d p) :
    ∃ a b c : Int, v = .agg #[.int .i64 a, .int .i64 b, .int .i64 c] := by
  obtain ⟨cs, rfl, hs⟩ := okWide_struct Try.underlying39 hv
  obtain ⟨fuel, hf⟩ := h
  have hl := leaf_ok 3 fuel 39 _ _ hf
  rw [leaves39] at hl
  obtain ⟨v0, h0, a, rfl, _⟩ := hl 0 (.int .i64) (by simp)
  obtain ⟨v1, h1, b, rfl, _⟩ := hl 1 (.int .i64) (by simp)
  obtain ⟨v2, h2, c, rfl, _⟩ := hl 2 (.int .i64) (by simp)
  rw [cells39] at hs
  refine ⟨a, b, c, ?_⟩
  congr 1
  obtain ⟨l⟩ := cs
  simp [Value.cells] at h0 h1 h2 hs
  match l, hs with
  | [x, y, z], _ => simp at h0 h1 h2; simp [h0, h1, h2]
theorem both (a b d g p e h q : Int) (ha : W32 a) (hb : W32 b) (w : World) :
    Calls Try.prog 7 #[.int .u32 a, .int .u32 b, .agg #[.int .i64 d, .int .i64 g, .int .i64 p], .agg #[.int .i64 e, .int .i64 h, .int .i64 q]] w fun r w' => r = .returned (.bool true) ∧ Below w.heap.size w w' := by
  have hk := Pure.LadderClears a b d g p e h q ha hb
  cases hv : has a b g p with
  | true => exact crierlaw08_LadderClears.callsT 11 a b d g p e h q true w hk (Aside0.mk rfl) (Aside0.mk (fun x y hxy => by
      obtain ⟨rfl, rfl⟩ := Prod.mk.inj (Option.some.inj hxy)
      exact congrArg some hv))
  | false => exact crierlaw08_LadderClears.callsF 11 a b d g p e h q true w hk (Aside0.mk rfl) (Aside0.mk (fun x y hxy => by
      obtain ⟨rfl, rfl⟩ := Prod.mk.inj (Option.some.inj hxy)
      exact congrArg some hv))
set_option maxRecDepth 100000 in
theorem lifted (os : Os) (started : os.Started) (H : Type) (enc : TypeId × Value → H) :
    ReturnsInHanded {} Try.checked os 7 .any (Rows.ladderClearsSpec.pre6 enc Try.prog Try.f7 Rows.ladderClearsRow.domain false) (Rows.ladderClearsSpec.post enc Try.prog Try.f7 false true false false) := by
  refine returnsInHanded_of_change_sized (C := Try.checked) own started (by kernel_rfl) Try.func7
    (ChangeSpec.witness6 (enc := enc) (C := Try.checked) false ⟨#[], #[.int .u32 0, .int .u32 0, .agg #[.int .i64 0, .int .i64 0, .int .i64 0], .agg #[.int .i64 0, .int .i64 0, .int .i64 0]], []⟩ 8 (by kernel_rfl) (by kernel_rfl) (by kernel_rfl) (by kernel_rfl)) ?_
  intro W base args ds gs before hval0 hW hcnd hsz0 _
  have hval : ∀ (j : Nat) t v, Try.f7.params[j]? = some t → args[j]? = some v → Value.okWide Try.prog W .any base t v := hval0
  have hW' := hW
  obtain ⟨p, q, hA0, hV, rfl, hfz, hnd⟩ := hW
  have hA : DataW.TrodAll enc Try.prog W 0 (fun _ => true) true Try.f7.params.toList args.toList ds p := hA0
  rw [Try.params7] at hA hval
  have hA' := hA
  obtain ⟨v0, vs0, d0, ds0, p0, q0, hargs, rfl, rfl, h0, r0⟩ := trodAll_cons hA
  obtain ⟨v1, vs1, d1, ds1, p1, q1, rfl, rfl, rfl, h1, r1⟩ := trodAll_cons r0
  obtain ⟨v2, vs2, d2, ds2, p2, q2, rfl, rfl, rfl, h2, r2⟩ := trodAll_cons r1
  obtain ⟨v3, vs3, d3, ds3, p3, q3, rfl, rfl, rfl, h3, r3⟩ := trodAll_cons r2
  obtain ⟨rfl, rfl, rfl⟩ := trodAll_nil r3
  obtain rfl : args = #[v0, v1, v2, v3] := by cases args; simp_all
  obtain ⟨rfl, rfl⟩ := trodVars_none hV
  obtain ⟨a0, rfl, rfl, rfl, w0⟩ := open_int Try.underlying22 (hval 0 22 v0 rfl rfl) h0
  obtain ⟨a1, rfl, rfl, rfl, w1⟩ := open_int Try.underlying22 (hval 1 22 v1 rfl rfl) h1
  obtain ⟨x0, x1, x2, rfl⟩ := open39 (hval 2 39 v2 rfl rfl) h2
  obtain ⟨y0, y1, y2, rfl⟩ := open39 (hval 3 39 v3 rfl rfl) h3
  clear hA0 hval0 hsz0
  refine (both a0 a1 x0 x1 x2 y0 y1 y2 (Pure.wf_u32 w0) (Pure.wf_u32 w1) W).mono fun e W' ⟨he, bel⟩ => ?_
  subst he
  exact ⟨_, rfl, _, _, _, [], _, [], hW', trodAll_mk1 (shut_bool Try.underlying4 _), trodAll_back laidOut bel _ _ _ _ (by intro t ht; simp at ht; rcases ht with rfl | rfl <;> exact ⟨by kernel_rfl, of_decide_eq_true (by kernel_rfl)⟩) hA', rfl, bel.frame _, fun h => by cases h⟩
theorem over : Rows.ladderClearsRow.holds Try.pinned (OpenSpec.ofChange Rows.ladderClearsSpec) :=
  OpenClaim.holds_of_wide 7 Try.f7 rfl rfl rfl rfl rfl rfl rfl ⟨rfl, rfl, rfl, rfl, rfl⟩ rfl rfl rfl rfl rfl (by kernel_rfl) Try.func7 (by kernel_rfl)
    (of_decide_eq_true (by kernel_rfl)) (by unfold Func.isWrapper; first | (rw [if_pos (by decide +kernel)]; kernel_rfl) | (rw [if_neg (by decide +kernel)]; exact ⟨rfl, rfl⟩))
    (fun os started H enc _ => lifted os started H enc)
theorem proved : Rows.LadderClearsSaid := over
end Go.Proofs.Ytafmacngboeanaa.ladderClears
namespace Go.Proofs.Ytafmacngboeanaa
theorem ladderClears_holds : Rows.LadderClearsSaid := ladderClears.proved
end Go.Proofs.Ytafmacngboeanaa
