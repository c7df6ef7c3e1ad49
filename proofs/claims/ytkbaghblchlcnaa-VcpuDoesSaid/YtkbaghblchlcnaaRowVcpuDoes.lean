/- The row of the law VcpuDoes. Written by the program wip/gen/row.py of this repository. -/
import Derived.Test.YtkbaghblchlcnaaRows
import Derived.Test.YtkbaghblchlcnaaPVcpuDoes
import Derived.Test.YtkbaghblchlcnaaD28
namespace Go.Proofs.Ytkbaghblchlcnaa.vcpuDoes
open Go.ChangeShapes Go.WideShapes Go.ChangeAt Go.RowKit Go.Proofs.YtkbaghblchlcnaaW.PrintWords
open Go.ChangeMaps (open_string shut_string)
theorem own : ownKnob Try.prog.godebug = none := by kernel_rfl
theorem laidOut : laidOutB Try.prog = true := by kernel_rfl
set_option maxRecDepth 100000 in
theorem leaves35 : leaves Try.prog 5 35 = [(0, .int .i64), (1, .int .i64), (2, .int .i64), (3, .bool), (4, .bool), (5, .bool), (6, .int .u32), (7, .int .u32)] := by rfl
theorem cells35 : Try.prog.cellsOf 35 = 8 := by kernel_rfl
set_option maxRecDepth 100000 in
theorem open35 {H : Type} {enc : TypeId × Value → H} {w : World} {base b0 : Nat} {spare : Nat → Bool} {held : Bool} {r : Reach} {v : Value} {d : DataW H} {p : List MemPlace}
    (hv : Value.okWide Try.prog w r b0 35 v) (h : DataW.Trod enc Try.prog w base spare held 35 v d p) :
    ∃ (x0 : Int) (x1 : Int) (x2 : Int) (x3 : Bool) (x4 : Bool) (x5 : Bool) (x6 : Int) (x7 : Int), v = .agg #[.int .i64 x0, .int .i64 x1, .int .i64 x2, .bool x3, .bool x4, .bool x5, .int .u32 x6, .int .u32 x7] ∧ (Lit.int .i64 x0).wf = true ∧ (Lit.int .i64 x1).wf = true ∧ (Lit.int .i64 x2).wf = true ∧ (Lit.int .u32 x6).wf = true ∧ (Lit.int .u32 x7).wf = true := by
  obtain ⟨cs, rfl, hs⟩ := okWide_struct Try.underlying35 hv
  obtain ⟨fuel, hf⟩ := h
  have hl := leaf_ok 5 fuel 35 _ _ hf
  rw [leaves35] at hl
  obtain ⟨v0, h0, x0, rfl, w0⟩ := hl 0 (.int .i64) (by simp)
  obtain ⟨v1, h1, x1, rfl, w1⟩ := hl 1 (.int .i64) (by simp)
  obtain ⟨v2, h2, x2, rfl, w2⟩ := hl 2 (.int .i64) (by simp)
  obtain ⟨v3, h3, x3, rfl⟩ := hl 3 (.bool) (by simp)
  obtain ⟨v4, h4, x4, rfl⟩ := hl 4 (.bool) (by simp)
  obtain ⟨v5, h5, x5, rfl⟩ := hl 5 (.bool) (by simp)
  obtain ⟨v6, h6, x6, rfl, w6⟩ := hl 6 (.int .u32) (by simp)
  obtain ⟨v7, h7, x7, rfl, w7⟩ := hl 7 (.int .u32) (by simp)
  rw [cells35] at hs
  refine ⟨x0, x1, x2, x3, x4, x5, x6, x7, ?_, w0, w1, w2, w6, w7⟩
  congr 1
  obtain ⟨l⟩ := cs
  simp [Value.cells] at h0 h1 h2 h3 h4 h5 h6 h7 hs
  match l, hs with
  | [y0, y1, y2, y3, y4, y5, y6, y7], _ => simp at h0 h1 h2 h3 h4 h5 h6 h7; simp [h0, h1, h2, h3, h4, h5, h6, h7]
set_option maxRecDepth 100000 in
theorem lifted (os : Os) (started : os.Started) (H : Type) (enc : TypeId × Value → H) :
    ReturnsInHanded {} Try.checked os 10 .any (Rows.vcpuDoesSpec.pre6 enc Try.prog Try.f10 Rows.vcpuDoesRow.domain false) (Rows.vcpuDoesSpec.post enc Try.prog Try.f10 false true false false) := by
  refine returnsInHanded_of_change_sized (C := Try.checked) own started (by kernel_rfl) Try.func10
    (ChangeSpec.witness6 (enc := enc) (C := Try.checked) false ⟨#[], #[.int .u8 0, .agg #[.int .i64 0, .int .i64 0, .int .i64 0, .bool false, .bool false, .bool false, .int .u32 0, .int .u32 0], .slice none 0 0], []⟩ 8 (by kernel_rfl) (by kernel_rfl) (by kernel_rfl) (by kernel_rfl)) ?_
  intro W base args ds gs before hval0 hW hcnd hsz0 _
  have hval : ∀ (j : Nat) t v, Try.f10.params[j]? = some t → args[j]? = some v → Value.okWide Try.prog W .any base t v := hval0
  have hW' := hW
  obtain ⟨p, q, hA0, hV, rfl, hfz, hnd⟩ := hW
  have hA : DataW.TrodAll enc Try.prog W 0 (fun _ => true) true Try.f10.params.toList args.toList ds p := hA0
  rw [Try.params10] at hA hval
  have hA' := hA
  obtain ⟨v0, vs0, d0, ds0, p0, q0, hargs, rfl, rfl, h0, r0⟩ := trodAll_cons hA
  obtain ⟨v1, vs1, d1, ds1, p1, q1, rfl, rfl, rfl, h1, r1⟩ := trodAll_cons r0
  obtain ⟨v2, vs2, d2, ds2, p2, q2, rfl, rfl, rfl, h2, r2⟩ := trodAll_cons r1
  obtain ⟨rfl, rfl, rfl⟩ := trodAll_nil r2
  obtain rfl : args = #[v0, v1, v2] := by cases args; simp_all
  obtain ⟨rfl, rfl⟩ := trodVars_none hV
  obtain ⟨a0, rfl, rfl, rfl, w0⟩ := open_int Try.underlying5 (hval 0 5 v0 rfl rfl) h0
  obtain ⟨a1_0, a1_1, a1_2, a1_3, a1_4, a1_5, a1_6, a1_7, rfl, w1_0, w1_1, w1_2, w1_6, w1_7⟩ := open35 (hval 1 35 v1 rfl rfl) h1
  obtain ⟨A2, len2, c2, rfl⟩ := okWide_slice Try.underlying44 (hval 2 44 v2 rfl rfl)
  have hws2 : ∀ n ∈ d2.weights Try.prog 44, n ≤ reachBytes := fun n hn => by
    have := List.all_eq_true.1 hsz0 n (DataW.weights_mem_each (j := 2) (t := 44) (d := d2) (by rw [Try.params10]; rfl) rfl n hn)
    simpa using this
  obtain ⟨l2, hx2, hS2⟩ : ∃ xs : List Lr.VA, xs.length = len2 ∧ Lr.ScOk W A2 xs := by
    obtain ⟨fuel, hf⟩ := h2
    obtain ⟨A, cap, xs, hcs, hS⟩ := Lr.open_acts hf hws2
    simp [Value.cells] at hcs
    obtain ⟨rfl, rfl, rfl⟩ := hcs
    exact ⟨xs, rfl, hS⟩
  subst hx2
  clear hA0 hval0 hsz0
  refine (Pure.vcpuDoes_both a0 a1_0 a1_1 a1_2 a1_3 a1_4 a1_5 a1_6 a1_7 A2 c2 l2 W w0 w1_0 w1_1 w1_2 w1_6 w1_7 hS2).mono fun e W' ⟨he, bel⟩ => ?_
  subst he
  exact ⟨_, rfl, _, _, _, [], _, [], hW', trodAll_mk1 (shut_bool Try.underlying4 _), trodAll_back laidOut bel _ _ _ _ (by intro t ht; simp at ht; rcases ht with rfl | rfl | rfl <;> exact ⟨by kernel_rfl, of_decide_eq_true (by kernel_rfl)⟩) hA', rfl, bel.frame _, fun h => by cases h⟩
theorem over : Rows.vcpuDoesRow.holds Try.pinned (OpenSpec.ofChange Rows.vcpuDoesSpec) :=
  OpenClaim.holds_of_wide 10 Try.f10 rfl rfl rfl rfl rfl rfl rfl ⟨rfl, rfl, rfl, rfl, rfl⟩ rfl rfl rfl rfl rfl (by kernel_rfl) Try.func10 (by kernel_rfl)
    (of_decide_eq_true (by kernel_rfl)) (by unfold Func.isWrapper; first | (rw [if_pos (by decide +kernel)]; kernel_rfl) | (rw [if_neg (by decide +kernel)]; exact ⟨rfl, rfl⟩))
    (fun os started H enc _ => lifted os started H enc)
theorem proved : Rows.VcpuDoesSaid := over
end Go.Proofs.Ytkbaghblchlcnaa.vcpuDoes
namespace Go.Proofs.Ytkbaghblchlcnaa
theorem vcpuDoes_holds : Rows.VcpuDoesSaid := vcpuDoes.proved
end Go.Proofs.Ytkbaghblchlcnaa
