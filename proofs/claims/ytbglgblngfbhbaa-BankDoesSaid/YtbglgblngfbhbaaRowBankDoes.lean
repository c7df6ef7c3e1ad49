import Derived.Test.YtbglgblngfbhbaaRows
import Derived.Test.YtbglgblngfbhbaaPBankDoes
import Derived.Test.YtbglgblngfbhbaaOpenRows
namespace Go.Proofs.Ytbglgblngfbhbaa.bankDoes
open Go.ChangeShapes Go.WideShapes Go.ChangeAt Go.RowKit Go.Proofs.YtbglgblngfbhbaaW.PrintWords
open Go.ChangeMaps (open_string shut_string)
theorem own : ownKnob Try.prog.godebug = none := by kernel_rfl
theorem laidOut : laidOutB Try.prog = true := by kernel_rfl
set_option maxRecDepth 100000 in
theorem leaves45 : leaves Try.prog 5 45 = [(0, .int .i64), (1, .int .i64), (2, .bool), (3, .bool), (4, .bool), (5, .bool), (6, .bool), (7, .int .i64), (8, .int .i64), (9, .str), (10, .int .i64)] := by rfl
theorem cells45 : Try.prog.cellsOf 45 = 11 := by kernel_rfl
set_option maxRecDepth 100000 in
theorem row45 {H : Type} {enc : TypeId × Value → H} {w : World} {base : Nat} {spare : Nat → Bool} {held : Bool} (m : Nat) (c : List Value) (y : DataW H × List MemPlace)
    (h : DataW.trod enc Try.prog w base spare held m 45 c = some y) (hl : c.length = 11) : ∃ p : IAll.S45, IAll.k45.K w p c ∧ ((Lit.int .i64 p.f0).wf = true ∧ (Lit.int .i64 p.f1).wf = true ∧ (Lit.int .i64 p.f7).wf = true ∧ (Lit.int .i64 p.f8).wf = true ∧ (Lit.int .i64 p.f10).wf = true) := by
  have hk := leaf_ok 5 m 45 _ _ h
  rw [leaves45] at hk
  obtain ⟨v0, h0, x0, rfl, w0⟩ := hk 0 (.int .i64) (by simp)
  obtain ⟨v1, h1, x1, rfl, w1⟩ := hk 1 (.int .i64) (by simp)
  obtain ⟨v2, h2, x2, rfl⟩ := hk 2 (.bool) (by simp)
  obtain ⟨v3, h3, x3, rfl⟩ := hk 3 (.bool) (by simp)
  obtain ⟨v4, h4, x4, rfl⟩ := hk 4 (.bool) (by simp)
  obtain ⟨v5, h5, x5, rfl⟩ := hk 5 (.bool) (by simp)
  obtain ⟨v6, h6, x6, rfl⟩ := hk 6 (.bool) (by simp)
  obtain ⟨v7, h7, x7, rfl, w7⟩ := hk 7 (.int .i64) (by simp)
  obtain ⟨v8, h8, x8, rfl, w8⟩ := hk 8 (.int .i64) (by simp)
  obtain ⟨v9, h9, x9, rfl, w9⟩ := hk 9 (.str) (by simp)
  obtain ⟨v10, h10, x10, rfl, w10⟩ := hk 10 (.int .i64) (by simp)
  refine ⟨⟨x0, x1, x2, x3, x4, x5, x6, x7, x8, x9, x10⟩, ?_, w0, w1, w7, w8, w10⟩
  match c, hl with
  | [y0, y1, y2, y3, y4, y5, y6, y7, y8, y9, y10], _ =>
    simp at h0 h1 h2 h3 h4 h5 h6 h7 h8 h9 h10
    subst h0
    subst h1
    subst h2
    subst h3
    subst h4
    subst h5
    subst h6
    subst h7
    subst h8
    subst h9
    subst h10
    exact IAll.k45_mk w ⟨x0, x1, x2, x3, x4, x5, x6, x7, x8, x9, x10⟩
set_option maxRecDepth 100000 in
theorem leaves50 : leaves Try.prog 5 50 = [(0, .bool), (1, .bool)] := by rfl
theorem cells50 : Try.prog.cellsOf 50 = 2 := by kernel_rfl
set_option maxRecDepth 100000 in
theorem open50 {H : Type} {enc : TypeId × Value → H} {w : World} {base b0 : Nat} {spare : Nat → Bool} {held : Bool} {r : Reach} {v : Value} {d : DataW H} {p : List MemPlace}
    (hv : Value.okWide Try.prog w r b0 50 v) (h : DataW.Trod enc Try.prog w base spare held 50 v d p) :
    ∃ (x0 : Bool) (x1 : Bool), v = .agg #[.bool x0, .bool x1] ∧ True := by
  obtain ⟨cs, rfl, hs⟩ := okWide_arr Try.underlying50 hv
  obtain ⟨fuel, hf⟩ := h
  have hl := leaf_ok 5 fuel 50 _ _ hf
  rw [leaves50] at hl
  obtain ⟨v0, h0, x0, rfl⟩ := hl 0 (.bool) (by simp)
  obtain ⟨v1, h1, x1, rfl⟩ := hl 1 (.bool) (by simp)
  rw [cells50] at hs
  refine ⟨x0, x1, ?_, trivial⟩
  congr 1
  obtain ⟨l⟩ := cs
  simp [Value.cells] at h0 h1 hs
  match l, hs with
  | [y0, y1], _ => simp at h0 h1; simp [h0, h1]
set_option maxRecDepth 100000 in
theorem lifted (os : Os) (started : os.Started) (H : Type) (enc : TypeId × Value → H) :
    ReturnsInHanded {} Try.checked os 8 .any (Rows.bankDoesSpec.pre6 enc Try.prog Try.f8 Rows.bankDoesRow.domain false) (Rows.bankDoesSpec.post enc Try.prog Try.f8 false true false false) := by
  refine returnsInHanded_of_change_sized (C := Try.checked) own started (by kernel_rfl) Try.func8
    (ChangeSpec.witness6 (enc := enc) (C := Try.checked) false ⟨#[], #[.int .u8 0, .int .u8 0, .slice none 0 0, .agg #[.bool false, .bool false]], []⟩ 8 (by kernel_rfl) (by kernel_rfl) (by kernel_rfl) (by kernel_rfl)) ?_
  intro W base args ds gs before hval0 hW hcnd hsz0 _
  have hval : ∀ (j : Nat) t v, Try.f8.params[j]? = some t → args[j]? = some v → Value.okWide Try.prog W .any base t v := hval0
  have hW' := hW
  obtain ⟨p, q, hA0, hV, rfl, hfz, hnd⟩ := hW
  have hA : DataW.TrodAll enc Try.prog W 0 (fun _ => true) true Try.f8.params.toList args.toList ds p := hA0
  rw [Try.params8] at hA hval
  have hA' := hA
  obtain ⟨v0, vs0, d0, ds0, p0, q0, hargs, rfl, rfl, h0, r0⟩ := trodAll_cons hA
  obtain ⟨v1, vs1, d1, ds1, p1, q1, rfl, rfl, rfl, h1, r1⟩ := trodAll_cons r0
  obtain ⟨v2, vs2, d2, ds2, p2, q2, rfl, rfl, rfl, h2, r2⟩ := trodAll_cons r1
  obtain ⟨v3, vs3, d3, ds3, p3, q3, rfl, rfl, rfl, h3, r3⟩ := trodAll_cons r2
  obtain ⟨rfl, rfl, rfl⟩ := trodAll_nil r3
  obtain rfl : args = #[v0, v1, v2, v3] := by cases args; simp_all
  obtain ⟨rfl, rfl⟩ := trodVars_none hV
  obtain ⟨a0, rfl, rfl, rfl, w0⟩ := open_int Try.underlying5 (hval 0 5 v0 rfl rfl) h0
  obtain ⟨a1, rfl, rfl, rfl, w1⟩ := open_int Try.underlying5 (hval 1 5 v1 rfl rfl) h1
  obtain ⟨A2, len2, c2, rfl⟩ := okWide_slice Try.underlying42 (hval 2 42 v2 rfl rfl)
  obtain ⟨l2, hx2, hl2, hm2, hr2, hw2⟩ : ∃ xs : List IAll.S45, xs.length = len2 ∧ len2 ≤ c2 ∧ c2 ≤ maxLen ∧ (0 < len2 → ∃ ad, A2 = some ad ∧ ∀ j p, xs[j]? = some p → ∃ c, c.length = 11 ∧ IAll.k45.K W p c ∧ ∀ i u, c[i]? = some u → W.cell? (ad.add (j * 11 + i)) = some u) ∧ (∀ p ∈ xs, ((Lit.int .i64 p.f0).wf = true ∧ (Lit.int .i64 p.f1).wf = true ∧ (Lit.int .i64 p.f7).wf = true ∧ (Lit.int .i64 p.f8).wf = true ∧ (Lit.int .i64 p.f10).wf = true)) := by
    obtain ⟨fuel, hf⟩ := h2
    obtain ⟨A, len, cap, xs, hcs, g1, g2, g3, g4, g5⟩ := open_rows (fun p c => IAll.k45.K W p c) (fun p : IAll.S45 => ((Lit.int .i64 p.f0).wf = true ∧ (Lit.int .i64 p.f1).wf = true ∧ (Lit.int .i64 p.f7).wf = true ∧ (Lit.int .i64 p.f8).wf = true ∧ (Lit.int .i64 p.f10).wf = true)) Try.underlying42 cells45 row45 hf
    simp [Value.cells] at hcs
    obtain ⟨rfl, rfl, rfl⟩ := hcs
    exact ⟨xs, g3, g1, g2, g4, g5⟩
  subst hx2
  have hn2 : l2.length ≤ 9223372036854775807 := Nat.le_trans hl2 (Nat.le_trans hm2 (by unfold maxLen; omega))
  obtain ⟨a3_0, a3_1, rfl, -⟩ := open50 (hval 3 50 v3 rfl rfl) h3
  clear hA0 hval0 hsz0
  refine (Pure.bankDoes_both a0 a1 A2 c2 l2 a3_0 a3_1 W w0 w1 ⟨rfl, hn2, hr2⟩ hl2 hm2 hw2).mono fun e W' ⟨he, bel⟩ => ?_
  subst he
  exact ⟨_, rfl, _, _, _, [], _, [], hW', trodAll_mk1 (shut_bool Try.underlying4 _), trodAll_back laidOut bel _ _ _ _ (by intro t ht; simp at ht; rcases ht with rfl | rfl | rfl <;> exact ⟨by kernel_rfl, of_decide_eq_true (by kernel_rfl)⟩) hA', rfl, bel.frame _, fun h => by cases h⟩
theorem over : Rows.bankDoesRow.holds Try.pinned (OpenSpec.ofChange Rows.bankDoesSpec) :=
  OpenClaim.holds_of_wide 8 Try.f8 rfl rfl rfl rfl rfl rfl rfl ⟨rfl, rfl, rfl, rfl, rfl⟩ rfl rfl rfl rfl rfl (by kernel_rfl) Try.func8 (by kernel_rfl)
    (of_decide_eq_true (by kernel_rfl)) (by unfold Func.isWrapper; first | (rw [if_pos (by decide +kernel)]; kernel_rfl) | (rw [if_neg (by decide +kernel)]; exact ⟨rfl, rfl⟩))
    (fun os started H enc _ => lifted os started H enc)
theorem proved : Rows.BankDoesSaid := over
end Go.Proofs.Ytbglgblngfbhbaa.bankDoes
namespace Go.Proofs.Ytbglgblngfbhbaa
theorem bankDoes_holds : Rows.BankDoesSaid := bankDoes.proved
end Go.Proofs.Ytbglgblngfbhbaa
