/- The row of the law CpuifDoes. Written by the program wip/gen/row.py of this repository. -/
import Derived.Test.YtpjenhojldcmiaaRows
import Derived.Test.YtpjenhojldcmiaaCp17
import Derived.Test.YtpjenhojldcmiaaOpenRows
namespace Go.Proofs.Ytpjenhojldcmiaa.cpuifDoes
open Go.ChangeShapes Go.WideShapes Go.ChangeAt Go.RowKit Go.Proofs.YtpjenhojldcmiaaW.PrintWords
open Go.ChangeMaps (open_string shut_string)
theorem own : ownKnob Try.prog.godebug = none := by kernel_rfl
theorem laidOut : laidOutB Try.prog = true := by kernel_rfl
theorem leaves29 : leaves Try.prog 5 29 = [(0, .int .i64), (1, .int .i64), (2, .int .i64), (3, .bool), (4, .bool), (5, .bool), (6, .int .u32), (7, .int .u32)] := by rfl
theorem cells29 : Try.prog.cellsOf 29 = 8 := by kernel_rfl
theorem open29 {H : Type} {enc : TypeId × Value → H} {w : World} {base b0 : Nat} {spare : Nat → Bool} {held : Bool} {r : Reach} {v : Value} {d : DataW H} {p : List MemPlace}
    (hv : Value.okWide Try.prog w r b0 29 v) (h : DataW.Trod enc Try.prog w base spare held 29 v d p) :
    ∃ (x0 : Int) (x1 : Int) (x2 : Int) (x3 : Bool) (x4 : Bool) (x5 : Bool) (x6 : Int) (x7 : Int), v = .agg #[.int .i64 x0, .int .i64 x1, .int .i64 x2, .bool x3, .bool x4, .bool x5, .int .u32 x6, .int .u32 x7] ∧ (Lit.int .i64 x0).wf = true ∧ (Lit.int .i64 x1).wf = true ∧ (Lit.int .i64 x2).wf = true ∧ (Lit.int .u32 x6).wf = true ∧ (Lit.int .u32 x7).wf = true := by
  obtain ⟨cs, rfl, hs⟩ := okWide_struct Try.underlying29 hv
  obtain ⟨fuel, hf⟩ := h
  have hl := leaf_ok 5 fuel 29 _ _ hf
  rw [leaves29] at hl
  obtain ⟨v0, h0, x0, rfl, w0⟩ := hl 0 (.int .i64) (by simp)
  obtain ⟨v1, h1, x1, rfl, w1⟩ := hl 1 (.int .i64) (by simp)
  obtain ⟨v2, h2, x2, rfl, w2⟩ := hl 2 (.int .i64) (by simp)
  obtain ⟨v3, h3, x3, rfl⟩ := hl 3 (.bool) (by simp)
  obtain ⟨v4, h4, x4, rfl⟩ := hl 4 (.bool) (by simp)
  obtain ⟨v5, h5, x5, rfl⟩ := hl 5 (.bool) (by simp)
  obtain ⟨v6, h6, x6, rfl, w6⟩ := hl 6 (.int .u32) (by simp)
  obtain ⟨v7, h7, x7, rfl, w7⟩ := hl 7 (.int .u32) (by simp)
  rw [cells29] at hs
  refine ⟨x0, x1, x2, x3, x4, x5, x6, x7, ?_, w0, w1, w2, w6, w7⟩
  congr 1
  obtain ⟨l⟩ := cs
  simp [Value.cells] at h0 h1 h2 h3 h4 h5 h6 h7 hs
  match l, hs with
  | [y0, y1, y2, y3, y4, y5, y6, y7], _ => simp at h0 h1 h2 h3 h4 h5 h6 h7; simp [h0, h1, h2, h3, h4, h5, h6, h7]
theorem leaves64 : leaves Try.prog 5 64 = [(0, .int .i64), (1, .int .i64), (2, .int .i64), (3, .int .i64), (4, .int .i64), (5, .bool), (6, .int .i64), (7, .int .u64)] := by rfl
theorem cells64 : Try.prog.cellsOf 64 = 8 := by kernel_rfl
theorem row64 {H : Type} {enc : TypeId × Value → H} {w : World} {base : Nat} {spare : Nat → Bool} {held : Bool} (m : Nat) (c : List Value) (y : DataW H × List MemPlace)
    (h : DataW.trod enc Try.prog w base spare held m 64 c = some y) (hl : c.length = 8) : ∃ p : IAll.S64, IAll.k64.K w p c ∧ ((Lit.int .i64 p.f0).wf = true ∧ (Lit.int .i64 p.f1).wf = true ∧ (Lit.int .i64 p.f2).wf = true ∧ (Lit.int .i64 p.f3).wf = true ∧ (Lit.int .i64 p.f4).wf = true ∧ (Lit.int .i64 p.f6).wf = true ∧ (Lit.int .u64 p.f7).wf = true) := by
  have hk := leaf_ok 5 m 64 _ _ h
  rw [leaves64] at hk
  obtain ⟨v0, h0, x0, rfl, w0⟩ := hk 0 (.int .i64) (by simp)
  obtain ⟨v1, h1, x1, rfl, w1⟩ := hk 1 (.int .i64) (by simp)
  obtain ⟨v2, h2, x2, rfl, w2⟩ := hk 2 (.int .i64) (by simp)
  obtain ⟨v3, h3, x3, rfl, w3⟩ := hk 3 (.int .i64) (by simp)
  obtain ⟨v4, h4, x4, rfl, w4⟩ := hk 4 (.int .i64) (by simp)
  obtain ⟨v5, h5, x5, rfl⟩ := hk 5 (.bool) (by simp)
  obtain ⟨v6, h6, x6, rfl, w6⟩ := hk 6 (.int .i64) (by simp)
  obtain ⟨v7, h7, x7, rfl, w7⟩ := hk 7 (.int .u64) (by simp)
  refine ⟨⟨x0, x1, x2, x3, x4, x5, x6, x7⟩, ?_, w0, w1, w2, w3, w4, w6, w7⟩
  match c, hl with
  | [y0, y1, y2, y3, y4, y5, y6, y7], _ =>
    simp at h0 h1 h2 h3 h4 h5 h6 h7
    subst h0
    subst h1
    subst h2
    subst h3
    subst h4
    subst h5
    subst h6
    subst h7
    exact IAll.k64_mk w ⟨x0, x1, x2, x3, x4, x5, x6, x7⟩
set_option maxRecDepth 100000 in
theorem lifted (os : Os) (started : os.Started) (H : Type) (enc : TypeId × Value → H) :
    ReturnsInHanded {} Try.checked os 8 .any (Rows.cpuifDoesSpec.pre6 enc Try.prog Try.f8 Rows.cpuifDoesRow.domain false) (Rows.cpuifDoesSpec.post enc Try.prog Try.f8 false true false false) := by
  refine returnsInHanded_of_change_sized (C := Try.checked) own started (by kernel_rfl) Try.func8
    (ChangeSpec.witness6 (enc := enc) (C := Try.checked) false ⟨#[], #[.agg #[.int .i64 0, .int .i64 0, .int .i64 0, .bool false, .bool false, .bool false, .int .u32 0, .int .u32 0], .slice none 0 0], []⟩ 8 (by kernel_rfl) (by kernel_rfl) (by kernel_rfl) (by kernel_rfl)) ?_
  intro W base args ds gs before hval0 hW hcnd hsz0 _
  have hval : ∀ (j : Nat) t v, Try.f8.params[j]? = some t → args[j]? = some v → Value.okWide Try.prog W .any base t v := hval0
  have hW' := hW
  obtain ⟨p, q, hA0, hV, rfl, hfz, hnd⟩ := hW
  have hA : DataW.TrodAll enc Try.prog W 0 (fun _ => true) true Try.f8.params.toList args.toList ds p := hA0
  rw [Try.params8] at hA hval
  have hA' := hA
  obtain ⟨v0, vs0, d0, ds0, p0, q0, hargs, rfl, rfl, h0, r0⟩ := trodAll_cons hA
  obtain ⟨v1, vs1, d1, ds1, p1, q1, rfl, rfl, rfl, h1, r1⟩ := trodAll_cons r0
  obtain ⟨rfl, rfl, rfl⟩ := trodAll_nil r1
  obtain rfl : args = #[v0, v1] := by cases args; simp_all
  obtain ⟨rfl, rfl⟩ := trodVars_none hV
  obtain ⟨a0_0, a0_1, a0_2, a0_3, a0_4, a0_5, a0_6, a0_7, rfl, w0_0, w0_1, w0_2, w0_6, w0_7⟩ := open29 (hval 0 29 v0 rfl rfl) h0
  obtain ⟨A1, len1, c1, rfl⟩ := okWide_slice Try.underlying56 (hval 1 56 v1 rfl rfl)
  obtain ⟨l1, hx1, hl1, hm1, hr1, hw1⟩ : ∃ xs : List IAll.S64, xs.length = len1 ∧ len1 ≤ c1 ∧ c1 ≤ maxLen ∧ (0 < len1 → ∃ ad, A1 = some ad ∧ ∀ j p, xs[j]? = some p → ∃ c, c.length = 8 ∧ IAll.k64.K W p c ∧ ∀ i u, c[i]? = some u → W.cell? (ad.add (j * 8 + i)) = some u) ∧ ∀ p ∈ xs, ((Lit.int .i64 p.f0).wf = true ∧ (Lit.int .i64 p.f1).wf = true ∧ (Lit.int .i64 p.f2).wf = true ∧ (Lit.int .i64 p.f3).wf = true ∧ (Lit.int .i64 p.f4).wf = true ∧ (Lit.int .i64 p.f6).wf = true ∧ (Lit.int .u64 p.f7).wf = true) := by
    obtain ⟨fuel, hf⟩ := h1
    obtain ⟨A, len, cap, xs, hcs, g1, g2, g3, g4, g5⟩ := open_rows (fun p c => IAll.k64.K W p c) (fun p : IAll.S64 => ((Lit.int .i64 p.f0).wf = true ∧ (Lit.int .i64 p.f1).wf = true ∧ (Lit.int .i64 p.f2).wf = true ∧ (Lit.int .i64 p.f3).wf = true ∧ (Lit.int .i64 p.f4).wf = true ∧ (Lit.int .i64 p.f6).wf = true ∧ (Lit.int .u64 p.f7).wf = true)) Try.underlying56 cells64 row64 hf
    simp [Value.cells] at hcs
    obtain ⟨rfl, rfl, rfl⟩ := hcs
    exact ⟨xs, g3, g1, g2, g4, g5⟩
  subst hx1
  have hn1 : l1.length ≤ 9223372036854775807 := Nat.le_trans hl1 (Nat.le_trans hm1 (by unfold maxLen; omega))
  clear hA0 hval0 hsz0
  refine (Pure.cpuifDoes_both a0_0 a0_1 a0_2 a0_3 a0_4 a0_5 a0_6 a0_7 A1 c1 l1 W w0_0 w0_1 w0_2 w0_6 w0_7 ⟨rfl, hn1, hr1⟩ hl1 hm1 hw1).mono fun e W' ⟨he, bel⟩ => ?_
  subst he
  exact ⟨_, rfl, _, _, _, [], _, [], hW', trodAll_mk1 (shut_bool Try.underlying4 _), trodAll_back laidOut bel _ _ _ _ (by intro t ht; simp at ht; rcases ht with rfl | rfl <;> exact ⟨by kernel_rfl, of_decide_eq_true (by kernel_rfl)⟩) hA', rfl, bel.frame _, fun h => by cases h⟩
theorem over : Rows.cpuifDoesRow.holds Try.pinned (OpenSpec.ofChange Rows.cpuifDoesSpec) :=
  OpenClaim.holds_of_wide 8 Try.f8 rfl rfl rfl rfl rfl rfl rfl ⟨rfl, rfl, rfl, rfl, rfl⟩ rfl rfl rfl rfl rfl (by kernel_rfl) Try.func8 (by kernel_rfl)
    (of_decide_eq_true (by kernel_rfl)) (by unfold Func.isWrapper; first | (rw [if_pos (by decide +kernel)]; kernel_rfl) | (rw [if_neg (by decide +kernel)]; exact ⟨rfl, rfl⟩))
    (fun os started H enc _ => lifted os started H enc)
theorem proved : Rows.CpuifDoesSaid := over
end Go.Proofs.Ytpjenhojldcmiaa.cpuifDoes
namespace Go.Proofs.Ytpjenhojldcmiaa
theorem cpuifDoes_holds : Rows.CpuifDoesSaid := cpuifDoes.proved
end Go.Proofs.Ytpjenhojldcmiaa
