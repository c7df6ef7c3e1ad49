/- What is written to a register is read, as far as it has bits; no other register changes: for every input. -/
import Derived.Test.YtpjenhojldcmiaaP0
import Derived.Test.YtpjenhojldcmiaaIAllx10
namespace Go.Proofs.Ytpjenhojldcmiaa.Pure.Sets
set_option linter.unusedVariables false
set_option linter.unusedSimpArgs false
open Go.RowKit Go.Proofs.Ytpjenhojldcmiaa Go.Proofs.Ytpjenhojldcmiaa.IAll Go.Proofs.YtpjenhojldcmiaaW.PrintWords Go.Proofs.YtpjenhojldcmiaaW.PrintLast Go.Proofs.YtpjenhojldcmiaaW.PrintMore

theorem awake14 : crierlaw14_awake.f = some true := by decide +kernel
theorem u255 (x : Int) : Go.bits .and .u64 x 255 = x % 256 := and_low_u x 8 (by decide)
theorem u7 (x : Int) : Go.bits .and .u64 x 7 = x % 8 := and_low_u x 3 (by decide)
theorem u1 (x : Int) : Go.bits .and .u64 x 1 = x % 2 := and_low_u x 1 (by decide)
theorem again6 (a : Int) : Go.bits .and .i64 (wrap64 (Go.bits .and .u64 (IntKind.u64.wrap (Go.bits .and .i64 (wrap64 (Go.bits .and .u64 a 255)) 248)) 255)) 248 = Go.bits .and .i64 (wrap64 (Go.bits .and .u64 a 255)) 248 := by
  have h : ∀ n : Fin 256, Go.bits .and .i64 (wrap64 (Go.bits .and .u64 (IntKind.u64.wrap (Go.bits .and .i64 (wrap64 ((n.val : Nat) : Int)) 248)) 255)) 248 = Go.bits .and .i64 (wrap64 ((n.val : Nat) : Int)) 248 := by decide +kernel
  rw [u255 a]
  have := h ⟨(a % 256).toNat, by omega⟩
  simpa [Int.toNat_of_nonneg (show 0 ≤ a % 256 by omega)] using this
theorem again7 (a : Int) : wrap64 (Go.bits .and .u64 (IntKind.u64.wrap (wrap64 (Go.bits .and .u64 a 7))) 7) = wrap64 (Go.bits .and .u64 a 7) := by
  have h : ∀ n : Fin 8, wrap64 (Go.bits .and .u64 (IntKind.u64.wrap (wrap64 ((n.val : Nat) : Int))) 7) = wrap64 ((n.val : Nat) : Int) := by decide +kernel
  rw [u7 a]
  have := h ⟨(a % 8).toNat, by omega⟩
  simpa [Int.toNat_of_nonneg (show 0 ≤ a % 8 by omega)] using this
theorem again8 (a : Int) : mx 1 (wrap64 (Go.bits .and .u64 (IntKind.u64.wrap (mx 1 (mx 1 (wrap64 (Go.bits .and .u64 a 7))))) 7)) = mx 1 (wrap64 (Go.bits .and .u64 a 7)) := by
  have h : ∀ n : Fin 8, mx 1 (wrap64 (Go.bits .and .u64 (IntKind.u64.wrap (mx 1 (mx 1 (wrap64 ((n.val : Nat) : Int))))) 7)) = mx 1 (wrap64 ((n.val : Nat) : Int)) := by decide +kernel
  rw [u7 a]
  have := h ⟨(a % 8).toNat, by omega⟩
  simpa [Int.toNat_of_nonneg (show 0 ≤ a % 8 by omega)] using this
theorem bit_is (b : Bool) : cpuif_bit.f b = some (if b then 1 else 0) := by cases b <;> rfl
theorem again9 (b : Bool) : (Go.bits .and .u64 (IntKind.u64.wrap (2 * (if b then 1 else 0))) 2 == 2) = b := by cases b <;> decide +kernel
theorem again10 (b : Bool) : (Go.bits .and .u64 (if b then 1 else 0) 1 == 1) = b := by cases b <;> decide +kernel
theorem read_ex (s0 s1 s2 : Int) (s3 s4 s5 : Bool) (s6 s7 a : Int) : ∃ x y, cpuif_If_Read.f s0 s1 s2 s3 s4 s5 s6 s7 a = some (x, y) := by
  unfold cpuif_If_Read.f cpuif_If_Running.f ladder_Ladder_Running.f
  simp only [bit_is, Option.bind_some]
  (repeat' split) <;> exact ⟨_, _, rfl⟩
theorem join (s0 s1 s2 : Int) (s3 s4 s5 : Bool) (s6 s7 a1 a2 a3 t0 t1 t2 : Int) (t3 t4 t5 : Bool) (v : Int)
    (h1 : cpuif_If_Write.f s0 s1 s2 s3 s4 s5 s6 s7 a1 a2 = some (true, t0, t1, t2, t3, t4, t5, s6, s7))
    (h2 : cpuif_If_Read.f t0 t1 t2 t3 t4 t5 s6 s7 a1 = some (v, true))
    (h3 : cpuif_If_Write.f t0 t1 t2 t3 t4 t5 s6 s7 a1 a2 = some (true, t0, t1, t2, t3, t4, t5, s6, s7))
    (h4 : cpuif_If_Write.f t0 t1 t2 t3 t4 t5 s6 s7 a1 v = some (true, t0, t1, t2, t3, t4, t5, s6, s7))
    (h5 : a3 ≠ a1 → cpuif_If_Read.f t0 t1 t2 t3 t4 t5 s6 s7 a3 = cpuif_If_Read.f s0 s1 s2 s3 s4 s5 s6 s7 a3) :
    crierlaw14_CpuifSets.f s0 s1 s2 s3 s4 s5 s6 s7 a1 a2 a3 = some true := by
  unfold crierlaw14_CpuifSets.f
  obtain ⟨x, y, e1⟩ := read_ex t0 t1 t2 t3 t4 t5 s6 s7 a3
  obtain ⟨x', y', e2⟩ := read_ex s0 s1 s2 s3 s4 s5 s6 s7 a3
  simp only [awake14, Option.bind_some, if_true, h1, h2, h3, h4, e1, e2]
  by_cases h : a3 = a1
  · simp [h]
  · have h6 := h5 h
    rw [e1, e2] at h6
    simp only [Option.some.injEq, Prod.mk.injEq] at h6
    simp [h6.1, h6.2]
theorem CpuifSets (s0 s1 s2 : Int) (s3 s4 s5 : Bool) (s6 s7 a1 a2 a3 : Int) : crierlaw14_CpuifSets.f s0 s1 s2 s3 s4 s5 s6 s7 a1 a2 a3 = some true := by
  by_cases h6 : a1 = 6
  · subst h6
    have W (x0 b : Int) : cpuif_If_Write.f x0 s1 s2 s3 s4 s5 s6 s7 6 b = some (true, Go.bits .and .i64 (wrap64 (Go.bits .and .u64 b 255)) 248, s1, s2, s3, s4, s5, s6, s7) := by
      unfold cpuif_If_Write.f prio_Real.f
      rw [if_pos rfl, Option.bind_some]
    refine join _ _ _ _ _ _ _ _ _ _ _ _ _ _ _ _ _ (IntKind.u64.wrap (Go.bits .and .i64 (wrap64 (Go.bits .and .u64 a2 255)) 248)) (W s0 a2) ?_ (W _ a2) ?_ fun h => ?_
    · unfold cpuif_If_Read.f; rw [if_pos rfl]
    · rw [W, again6]
    · unfold cpuif_If_Read.f cpuif_If_Running.f; simp only [if_neg h]
  by_cases h7 : a1 = 7
  · subst h7
    have W (x0 b : Int) : cpuif_If_Write.f s0 x0 s2 s3 s4 s5 s6 s7 7 b = some (true, s0, wrap64 (Go.bits .and .u64 b 7), s2, s3, s4, s5, s6, s7) := by
      unfold cpuif_If_Write.f
      rw [if_neg (by decide), if_pos rfl]
    refine join _ _ _ _ _ _ _ _ _ _ _ _ _ _ _ _ _ (IntKind.u64.wrap (wrap64 (Go.bits .and .u64 a2 7))) (W s1 a2) ?_ (W _ a2) ?_ fun h => ?_
    · unfold cpuif_If_Read.f; rw [if_neg (by decide), if_pos rfl]
    · rw [W, again7]
    · unfold cpuif_If_Read.f cpuif_If_Running.f; simp only [if_neg h]
  by_cases h8 : a1 = 8
  · subst h8
    have W (x0 b : Int) : cpuif_If_Write.f s0 s1 x0 s3 s4 s5 s6 s7 8 b = some (true, s0, s1, mx 1 (wrap64 (Go.bits .and .u64 b 7)), s3, s4, s5, s6, s7) := by
      unfold cpuif_If_Write.f
      rw [if_neg (by decide), if_neg (by decide), if_pos rfl]
    refine join _ _ _ _ _ _ _ _ _ _ _ _ _ _ _ _ _ (IntKind.u64.wrap (mx 1 (mx 1 (wrap64 (Go.bits .and .u64 a2 7))))) (W s2 a2) ?_ (W _ a2) ?_ fun h => ?_
    · unfold cpuif_If_Read.f; rw [if_neg (by decide), if_neg (by decide), if_pos rfl]
    · rw [W, again8]
    · unfold cpuif_If_Read.f cpuif_If_Running.f; simp only [if_neg h]
  by_cases h9 : a1 = 9
  · subst h9
    have W (x0 : Bool) (b : Int) : cpuif_If_Write.f s0 s1 s2 s3 s4 x0 s6 s7 9 b = some (true, s0, s1, s2, s3, s4, (Go.bits .and .u64 b 2 == 2), s6, s7) := by
      unfold cpuif_If_Write.f
      rw [if_neg (by decide), if_neg (by decide), if_neg (by decide), if_pos rfl]
    refine join _ _ _ _ _ _ _ _ _ _ _ _ _ _ _ _ _ (IntKind.u64.wrap (2 * (if (Go.bits .and .u64 a2 2 == 2) then 1 else 0))) (W s5 a2) ?_ (W _ a2) ?_ fun h => ?_
    · unfold cpuif_If_Read.f; rw [if_neg (by decide), if_neg (by decide), if_neg (by decide), if_pos rfl, bit_is, Option.bind_some]
    · rw [W, again9]
    · unfold cpuif_If_Read.f cpuif_If_Running.f; simp only [if_neg h]
  by_cases h10 : a1 = 10
  · subst h10
    have W (x0 : Bool) (b : Int) : cpuif_If_Write.f s0 s1 s2 x0 s4 s5 s6 s7 10 b = some (true, s0, s1, s2, (Go.bits .and .u64 b 1 == 1), s4, s5, s6, s7) := by
      unfold cpuif_If_Write.f
      rw [if_neg (by decide), if_neg (by decide), if_neg (by decide), if_neg (by decide), if_pos rfl]
    refine join _ _ _ _ _ _ _ _ _ _ _ _ _ _ _ _ _ (if (Go.bits .and .u64 a2 1 == 1) then 1 else 0) (W s3 a2) ?_ (W _ a2) ?_ fun h => ?_
    · unfold cpuif_If_Read.f; rw [if_neg (by decide), if_neg (by decide), if_neg (by decide), if_neg (by decide), if_pos rfl, bit_is, Option.bind_some]
    · rw [W, again10]
    · unfold cpuif_If_Read.f cpuif_If_Running.f; simp only [if_neg h]
  by_cases h11 : a1 = 11
  · subst h11
    have W (x0 : Bool) (b : Int) : cpuif_If_Write.f s0 s1 s2 s3 x0 s5 s6 s7 11 b = some (true, s0, s1, s2, s3, (Go.bits .and .u64 b 1 == 1), s5, s6, s7) := by
      unfold cpuif_If_Write.f
      rw [if_neg (by decide), if_neg (by decide), if_neg (by decide), if_neg (by decide), if_neg (by decide), if_pos rfl]
    refine join _ _ _ _ _ _ _ _ _ _ _ _ _ _ _ _ _ (if (Go.bits .and .u64 a2 1 == 1) then 1 else 0) (W s4 a2) ?_ (W _ a2) ?_ fun h => ?_
    · unfold cpuif_If_Read.f; rw [if_neg (by decide), if_neg (by decide), if_neg (by decide), if_neg (by decide), if_neg (by decide), if_pos rfl, bit_is, Option.bind_some]
    · rw [W, again10]
    · unfold cpuif_If_Read.f cpuif_If_Running.f; simp only [if_neg h]
  have e : cpuif_If_Write.f s0 s1 s2 s3 s4 s5 s6 s7 a1 a2 = some (false, s0, s1, s2, s3, s4, s5, s6, s7) := by
    unfold cpuif_If_Write.f
    rw [if_neg h6, if_neg h7, if_neg h8, if_neg h9, if_neg h10, if_neg h11]
  unfold crierlaw14_CpuifSets.f
  rw [awake14, Option.bind_some, if_pos rfl, e, Option.bind_some]
  simp
theorem cpuifSets_both (s0 s1 s2 : Int) (s3 s4 s5 : Bool) (s6 s7 : Int) (a1 a2 a3 : Int)
    (_ : (Lit.int .i64 s0).wf = true) (_ : (Lit.int .i64 s1).wf = true) (_ : (Lit.int .i64 s2).wf = true) (_ : (Lit.int .u32 s6).wf = true) (_ : (Lit.int .u32 s7).wf = true)
    (_ : (Lit.int .i64 a1).wf = true) (_ : (Lit.int .u64 a2).wf = true) (_ : (Lit.int .i64 a3).wf = true) (w : World) :
    Calls Try.prog 4 #[.agg #[.int .i64 s0, .int .i64 s1, .int .i64 s2, .bool s3, .bool s4, .bool s5, .int .u32 s6, .int .u32 s7], .int .i64 a1, .int .u64 a2, .int .i64 a3] w fun en w' => en = .returned (.bool true) ∧ Below w.heap.size w w' :=
  crierlaw14_CpuifSets.calls s0 s1 s2 s3 s4 s5 s6 s7 a1 a2 a3 true w (CpuifSets s0 s1 s2 s3 s4 s5 s6 s7 a1 a2 a3) (Aside0.mk rfl)
end Go.Proofs.Ytpjenhojldcmiaa.Pure.Sets
