/- The row of the law VcpuNews. Written by the program wip/gen/row.py of this repository. -/
import Derived.Test.YtkbaghblchlcnaaRows
import Derived.Test.YtkbaghblchlcnaaPVcpuNews
import Derived.Test.YtkbaghblchlcnaaB20
namespace Go.Proofs.Ytkbaghblchlcnaa.vcpuNews
open Go.ChangeShapes Go.WideShapes Go.ChangeAt Go.RowKit Go.Proofs.YtkbaghblchlcnaaW.PrintWords
open Go.ChangeMaps (open_string shut_string)
theorem own : ownKnob Try.prog.godebug = none := by kernel_rfl
theorem laidOut : laidOutB Try.prog = true := by kernel_rfl
set_option maxRecDepth 100000 in
theorem leaves54 : leaves Try.prog 5 54 = [(0, .int .i64), (1, .int .i64), (2, .int .i64), (3, .int .i64), (4, .bool), (5, .int .i64), (6, .bool)] := by rfl
theorem cells54 : Try.prog.cellsOf 54 = 7 := by kernel_rfl
set_option maxRecDepth 100000 in
theorem row54 {H : Type} {enc : TypeId × Value → H} {w : World} {base : Nat} {spare : Nat → Bool} {held : Bool} (m : Nat) (c : List Value) (y : DataW H × List MemPlace)
    (h : DataW.trod enc Try.prog w base spare held m 54 c = some y) (hl : c.length = 7) : ∃ p : IAll.S54, IAll.k54.K w p c ∧ ((Lit.int .i64 p.f0).wf = true ∧ (Lit.int .i64 p.f1).wf = true ∧ (Lit.int .i64 p.f2).wf = true ∧ (Lit.int .i64 p.f3).wf = true ∧ (Lit.int .i64 p.f5).wf = true) := by
  have hk := leaf_ok 5 m 54 _ _ h
  rw [leaves54] at hk
  obtain ⟨v0, h0, x0, rfl, w0⟩ := hk 0 (.int .i64) (by simp)
  obtain ⟨v1, h1, x1, rfl, w1⟩ := hk 1 (.int .i64) (by simp)
  obtain ⟨v2, h2, x2, rfl, w2⟩ := hk 2 (.int .i64) (by simp)
  obtain ⟨v3, h3, x3, rfl, w3⟩ := hk 3 (.int .i64) (by simp)
  obtain ⟨v4, h4, x4, rfl⟩ := hk 4 (.bool) (by simp)
  obtain ⟨v5, h5, x5, rfl, w5⟩ := hk 5 (.int .i64) (by simp)
  obtain ⟨v6, h6, x6, rfl⟩ := hk 6 (.bool) (by simp)
  refine ⟨⟨x0, x1, x2, x3, x4, x5, x6⟩, ?_, w0, w1, w2, w3, w5⟩
  match c, hl with
  | [y0, y1, y2, y3, y4, y5, y6], _ =>
    simp at h0 h1 h2 h3 h4 h5 h6
    subst h0
    subst h1
    subst h2
    subst h3
    subst h4
    subst h5
    subst h6
    exact IAll.k54_mk w ⟨x0, x1, x2, x3, x4, x5, x6⟩
set_option maxRecDepth 100000 in
theorem lifted (os : Os) (started : os.Started) (H : Type) (enc : TypeId × Value → H) :
    ReturnsInHanded {} Try.checked os 3 .any (Rows.vcpuNewsSpec.pre6 enc Try.prog Try.f3 Rows.vcpuNewsRow.domain false) (Rows.vcpuNewsSpec.post enc Try.prog Try.f3 false true false false) := by
  refine returnsInHanded_of_change_sized (C := Try.checked) own started (by kernel_rfl) Try.func3
    (ChangeSpec.witness6 (enc := enc) (C := Try.checked) false ⟨#[], #[.int .i64 0, .slice none 0 0], []⟩ 8 (by kernel_rfl) (by kernel_rfl) (by kernel_rfl) (by kernel_rfl)) ?_
  intro W base args ds gs before hval0 hW hcnd hsz0 _
  have hval : ∀ (j : Nat) t v, Try.f3.params[j]? = some t → args[j]? = some v → Value.okWide Try.prog W .any base t v := hval0
  have hW' := hW
  obtain ⟨p, q, hA0, hV, rfl, hfz, hnd⟩ := hW
  have hA : DataW.TrodAll enc Try.prog W 0 (fun _ => true) true Try.f3.params.toList args.toList ds p := hA0
  rw [Try.params3] at hA hval
  have hA' := hA
  obtain ⟨v0, vs0, d0, ds0, p0, q0, hargs, rfl, rfl, h0, r0⟩ := trodAll_cons hA
  obtain ⟨v1, vs1, d1, ds1, p1, q1, rfl, rfl, rfl, h1, r1⟩ := trodAll_cons r0
  obtain ⟨rfl, rfl, rfl⟩ := trodAll_nil r1
  obtain rfl : args = #[v0, v1] := by cases args; simp_all
  obtain ⟨rfl, rfl⟩ := trodVars_none hV
  obtain ⟨a0, rfl, rfl, rfl, w0⟩ := open_int Try.underlying3 (hval 0 3 v0 rfl rfl) h0
  obtain ⟨A1, len1, c1, rfl⟩ := okWide_slice Try.underlying22 (hval 1 22 v1 rfl rfl)
  obtain ⟨l1, hx1, hl1, hm1, hr1, hw1⟩ : ∃ xs : List IAll.S54, xs.length = len1 ∧ len1 ≤ c1 ∧ c1 ≤ maxLen ∧ (0 < len1 → ∃ ad, A1 = some ad ∧ ∀ j p, xs[j]? = some p → ∃ c, c.length = 7 ∧ IAll.k54.K W p c ∧ ∀ i u, c[i]? = some u → W.cell? (ad.add (j * 7 + i)) = some u) ∧ ∀ p ∈ xs, ((Lit.int .i64 p.f0).wf = true ∧ (Lit.int .i64 p.f1).wf = true ∧ (Lit.int .i64 p.f2).wf = true ∧ (Lit.int .i64 p.f3).wf = true ∧ (Lit.int .i64 p.f5).wf = true) := by
    obtain ⟨fuel, hf⟩ := h1
    obtain ⟨A, len, cap, xs, hcs, g1, g2, g3, g4, g5⟩ := open_rows (fun p c => IAll.k54.K W p c) (fun p : IAll.S54 => ((Lit.int .i64 p.f0).wf = true ∧ (Lit.int .i64 p.f1).wf = true ∧ (Lit.int .i64 p.f2).wf = true ∧ (Lit.int .i64 p.f3).wf = true ∧ (Lit.int .i64 p.f5).wf = true)) Try.underlying22 cells54 row54 hf
    simp [Value.cells] at hcs
    obtain ⟨rfl, rfl, rfl⟩ := hcs
    exact ⟨xs, g3, g1, g2, g4, g5⟩
  subst hx1
  have hn1 : l1.length ≤ 9223372036854775807 := Nat.le_trans hl1 (Nat.le_trans hm1 (by unfold maxLen; omega))
  clear hA0 hval0 hsz0
  refine (Pure.vcpuNews_both a0 A1 c1 l1 W w0 ⟨rfl, hn1, hr1⟩ hl1 hm1 hw1).mono fun e W' ⟨he, bel⟩ => ?_
  subst he
  exact ⟨_, rfl, _, _, _, [], _, [], hW', trodAll_mk1 (shut_bool Try.underlying4 _), trodAll_back laidOut bel _ _ _ _ (by intro t ht; simp at ht; rcases ht with rfl | rfl <;> exact ⟨by kernel_rfl, of_decide_eq_true (by kernel_rfl)⟩) hA', rfl, bel.frame _, fun h => by cases h⟩
theorem over : Rows.vcpuNewsRow.holds Try.pinned (OpenSpec.ofChange Rows.vcpuNewsSpec) :=
  OpenClaim.holds_of_wide 3 Try.f3 rfl rfl rfl rfl rfl rfl rfl ⟨rfl, rfl, rfl, rfl, rfl⟩ rfl rfl rfl rfl rfl (by kernel_rfl) Try.func3 (by kernel_rfl)
    (of_decide_eq_true (by kernel_rfl)) (by unfold Func.isWrapper; first | (rw [if_pos (by decide +kernel)]; kernel_rfl) | (rw [if_neg (by decide +kernel)]; exact ⟨rfl, rfl⟩))
    (fun os started H enc _ => lifted os started H enc)
theorem proved : Rows.VcpuNewsSaid := over
end Go.Proofs.Ytkbaghblchlcnaa.vcpuNews
namespace Go.Proofs.Ytkbaghblchlcnaa
theorem vcpuNews_holds : Rows.VcpuNewsSaid := vcpuNews.proved
end Go.Proofs.Ytkbaghblchlcnaa
