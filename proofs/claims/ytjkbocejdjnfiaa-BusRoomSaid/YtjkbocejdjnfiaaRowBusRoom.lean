/- The row of the law BusRoom. Written by the program wip/gen/row.py of this repository. -/
import Derived.Test.YtjkbocejdjnfiaaRows
import Derived.Test.YtjkbocejdjnfiaaPBusRoom
import Derived.Test.YtjkbocejdjnfiaaOpenRows
namespace Go.Proofs.Ytjkbocejdjnfiaa.busRoom
open Go.ChangeShapes Go.WideShapes Go.ChangeAt Go.RowKit Go.Proofs.YtjkbocejdjnfiaaW.PrintWords
open Go.ChangeMaps (open_string shut_string)
theorem own : ownKnob Try.prog.godebug = none := by kernel_rfl
theorem laidOut : laidOutB Try.prog = true := by kernel_rfl
set_option maxRecDepth 100000 in
theorem leaves33 : leaves Try.prog 5 33 = [(0, .int .i64), (1, .int .i64), (2, .int .i64), (3, .int .i64)] := by rfl
theorem cells33 : Try.prog.cellsOf 33 = 4 := by kernel_rfl
set_option maxRecDepth 100000 in
theorem row33 {H : Type} {enc : TypeId × Value → H} {w : World} {base : Nat} {spare : Nat → Bool} {held : Bool} (m : Nat) (c : List Value) (y : DataW H × List MemPlace)
    (h : DataW.trod enc Try.prog w base spare held m 33 c = some y) (hl : c.length = 4) : ∃ p : IAll.S33, IAll.k33.K w p c ∧ ((Lit.int .i64 p.f0).wf = true ∧ (Lit.int .i64 p.f1).wf = true ∧ (Lit.int .i64 p.f2).wf = true ∧ (Lit.int .i64 p.f3).wf = true) := by
  have hk := leaf_ok 5 m 33 _ _ h
  rw [leaves33] at hk
  obtain ⟨v0, h0, x0, rfl, w0⟩ := hk 0 (.int .i64) (by simp)
  obtain ⟨v1, h1, x1, rfl, w1⟩ := hk 1 (.int .i64) (by simp)
  obtain ⟨v2, h2, x2, rfl, w2⟩ := hk 2 (.int .i64) (by simp)
  obtain ⟨v3, h3, x3, rfl, w3⟩ := hk 3 (.int .i64) (by simp)
  refine ⟨⟨x0, x1, x2, x3⟩, ?_, w0, w1, w2, w3⟩
  match c, hl with
  | [y0, y1, y2, y3], _ =>
    simp at h0 h1 h2 h3
    subst h0
    subst h1
    subst h2
    subst h3
    exact IAll.k33_mk w ⟨x0, x1, x2, x3⟩
set_option maxRecDepth 100000 in
theorem lifted (os : Os) (started : os.Started) (H : Type) (enc : TypeId × Value → H) :
    ReturnsInHanded {} Try.checked os 8 .any (Rows.busRoomSpec.pre6 enc Try.prog Try.f8 Rows.busRoomRow.domain false) (Rows.busRoomSpec.post enc Try.prog Try.f8 false true false false) := by
  refine returnsInHanded_of_change_sized (C := Try.checked) own started (by kernel_rfl) Try.func8
    (ChangeSpec.witness6 (enc := enc) (C := Try.checked) false ⟨#[], #[.slice none 0 0, .int .i64 0, .int .i64 0, .int .i64 0, .int .i64 0], []⟩ 8 (by kernel_rfl) (by kernel_rfl) (by kernel_rfl) (by kernel_rfl)) ?_
  intro W base args ds gs before hval0 hW hcnd hsz0 _
  have hval : ∀ (j : Nat) t v, Try.f8.params[j]? = some t → args[j]? = some v → Value.okWide Try.prog W .any base t v := hval0
  have hW' := hW
  obtain ⟨p, q, hA0, hV, rfl, hfz, hnd⟩ := hW
  have hA : DataW.TrodAll enc Try.prog W 0 (fun _ => true) true Try.f8.params.toList args.toList ds p := hA0
  rw [Try.params8] at hA hval
  have hA' := hA
  obtain ⟨v0, vs0, d0, ds0, p0, q0, hargs, rfl, rfl, h0, r0⟩ := trodAll_cons hA
  obtain ⟨v1, vs1, d1, ds1, p1, q1, rfl, rfl, rfl, h1, r1⟩ := trodAll_cons r0
  obtain ⟨v2, vs2, d2, ds2, p2, q2, rfl, rfl, rfl, h2, r2⟩ := trodAll_cons r1
  obtain ⟨v3, vs3, d3, ds3, p3, q3, rfl, rfl, rfl, h3, r3⟩ := trodAll_cons r2
  obtain ⟨v4, vs4, d4, ds4, p4, q4, rfl, rfl, rfl, h4, r4⟩ := trodAll_cons r3
  obtain ⟨rfl, rfl, rfl⟩ := trodAll_nil r4
  obtain rfl : args = #[v0, v1, v2, v3, v4] := by cases args; simp_all
  obtain ⟨rfl, rfl⟩ := trodVars_none hV
  obtain ⟨A0, len0, c0, rfl⟩ := okWide_slice Try.underlying22 (hval 0 22 v0 rfl rfl)
  obtain ⟨l0, hx0, hl0, hm0, hr0, hw0⟩ : ∃ xs : List IAll.S33, xs.length = len0 ∧ len0 ≤ c0 ∧ c0 ≤ maxLen ∧ (0 < len0 → ∃ ad, A0 = some ad ∧ ∀ j p, xs[j]? = some p → ∃ c, c.length = 4 ∧ IAll.k33.K W p c ∧ ∀ i u, c[i]? = some u → W.cell? (ad.add (j * 4 + i)) = some u) ∧ (∀ p ∈ xs, ((Lit.int .i64 p.f0).wf = true ∧ (Lit.int .i64 p.f1).wf = true ∧ (Lit.int .i64 p.f2).wf = true ∧ (Lit.int .i64 p.f3).wf = true)) := by
    obtain ⟨fuel, hf⟩ := h0
    obtain ⟨A, len, cap, xs, hcs, g1, g2, g3, g4, g5⟩ := open_rows (fun p c => IAll.k33.K W p c) (fun p : IAll.S33 => ((Lit.int .i64 p.f0).wf = true ∧ (Lit.int .i64 p.f1).wf = true ∧ (Lit.int .i64 p.f2).wf = true ∧ (Lit.int .i64 p.f3).wf = true)) Try.underlying22 cells33 row33 hf
    simp [Value.cells] at hcs
    obtain ⟨rfl, rfl, rfl⟩ := hcs
    exact ⟨xs, g3, g1, g2, g4, g5⟩
  subst hx0
  have hn0 : l0.length ≤ 9223372036854775807 := Nat.le_trans hl0 (Nat.le_trans hm0 (by unfold maxLen; omega))
  obtain ⟨a1, rfl, rfl, rfl, w1⟩ := open_int Try.underlying3 (hval 1 3 v1 rfl rfl) h1
  obtain ⟨a2, rfl, rfl, rfl, w2⟩ := open_int Try.underlying3 (hval 2 3 v2 rfl rfl) h2
  obtain ⟨a3, rfl, rfl, rfl, w3⟩ := open_int Try.underlying3 (hval 3 3 v3 rfl rfl) h3
  obtain ⟨a4, rfl, rfl, rfl, w4⟩ := open_int Try.underlying31 (hval 4 31 v4 rfl rfl) h4
  clear hA0 hval0 hsz0
  refine (Pure.busRoom_both A0 c0 l0 a1 a2 a3 a4 W ⟨rfl, hn0, hr0⟩ hl0 hm0 hw0 w1 w2 w3 w4).mono fun e W' ⟨he, bel⟩ => ?_
  subst he
  exact ⟨_, rfl, _, _, _, [], _, [], hW', trodAll_mk1 (shut_bool Try.underlying4 _), trodAll_back laidOut bel _ _ _ _ (by intro t ht; simp at ht; rcases ht with rfl | rfl | rfl <;> exact ⟨by kernel_rfl, of_decide_eq_true (by kernel_rfl)⟩) hA', rfl, bel.frame _, fun h => by cases h⟩
theorem over : Rows.busRoomRow.holds Try.pinned (OpenSpec.ofChange Rows.busRoomSpec) :=
  OpenClaim.holds_of_wide 8 Try.f8 rfl rfl rfl rfl rfl rfl rfl ⟨rfl, rfl, rfl, rfl, rfl⟩ rfl rfl rfl rfl rfl (by kernel_rfl) Try.func8 (by kernel_rfl)
    (of_decide_eq_true (by kernel_rfl)) (by unfold Func.isWrapper; first | (rw [if_pos (by decide +kernel)]; kernel_rfl) | (rw [if_neg (by decide +kernel)]; exact ⟨rfl, rfl⟩))
    (fun os started H enc _ => lifted os started H enc)
theorem proved : Rows.BusRoomSaid := over
end Go.Proofs.Ytjkbocejdjnfiaa.busRoom
namespace Go.Proofs.Ytjkbocejdjnfiaa
theorem busRoom_holds : Rows.BusRoomSaid := busRoom.proved
end Go.Proofs.Ytjkbocejdjnfiaa
