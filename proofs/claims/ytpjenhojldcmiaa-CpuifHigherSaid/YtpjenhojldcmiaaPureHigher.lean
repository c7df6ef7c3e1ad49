/- What comes through does so with a higher priority, and through an interface that lets more through: for every input. -/
import Derived.Test.YtpjenhojldcmiaaP0
import Derived.Test.YtpjenhojldcmiaaIAllx10
namespace Go.Proofs.Ytpjenhojldcmiaa.Pure
set_option linter.unusedVariables false
set_option linter.unusedSimpArgs false
open Go.RowKit Go.Proofs.Ytpjenhojldcmiaa Go.Proofs.Ytpjenhojldcmiaa.IAll Go.Proofs.YtpjenhojldcmiaaW.PrintWords Go.Proofs.YtpjenhojldcmiaaW.PrintLast Go.Proofs.YtpjenhojldcmiaaW.PrintMore

theorem awake14 : crierlaw14_awake.f = some true := by decide +kernel
theorem wf_u8 {n : Int} (h : (Lit.int .u8 n).wf = true) : 0 ≤ n ∧ n ≤ 255 := by
  simp only [Lit.wf, Bool.and_eq_true, decide_eq_true_eq] at h
  have h1 : IntKind.u8.min = 0 := rfl
  have h2 : IntKind.u8.max = 255 := rfl
  omega
theorem CpuifHigher (s0 s1 s2 : Int) (s3 s4 s5 : Bool) (s6 s7 c0 c1 c2 : Int) (c3 : Bool) (a2 a3 : Int) (h2 : 0 ≤ a2 ∧ a2 ≤ 255) (h3 : 0 ≤ a3 ∧ a3 ≤ 255) :
    crierlaw14_CpuifHigher.f s0 s1 s2 s3 s4 s5 s6 s7 c0 c1 c2 c3 a2 a3 = some true := by
  unfold crierlaw14_CpuifHigher.f
  obtain ⟨j, hj, hm⟩ := mask_ex s0 s1 s2 s3 s4 s5 s6 s7 c2
  have w2 : wrap64 a2 = a2 := by unfold wrap64; omega
  have w3 : wrap64 a3 = a3 := by unfold wrap64; omega
  rw [awake14, Option.bind_some, if_pos rfl, may_is _ _ _ _ _ _ _ _ _ _ _ _ _ (hm _ _ _ _ _ _), Option.bind_some, may_is _ _ _ _ _ _ _ _ _ _ _ _ _ (hm _ _ _ _ _ _), Option.bind_some, may_is _ _ _ _ _ _ _ _ _ _ _ _ _ (hm _ _ _ _ _ _), Option.bind_some, w2, w3]
  clear w2 w3
  generalize (if c2 % 2 = 0 then s3 else s4) = on
  by_cases h : (c3 && on && decide (c1 % 256 < s0) && decide (Go.bits .and .i64 (c1 % 256) (256 - 2 ^ j) < (top s6 s7).1)) = true
  · rw [if_pos h]
    simp only [Bool.and_eq_true, decide_eq_true_eq] at h
    obtain ⟨⟨⟨hc, hon⟩, hp⟩, hr⟩ := h
    have b1 : 0 ≤ mn (c1 % 256) a2 ∧ mn (c1 % 256) a2 ≤ c1 % 256 := by unfold mn; split <;> omega
    have b2 : s0 ≤ mx s0 a3 := by unfold mx; split <;> omega
    have b3 := and_mono j hj (mn (c1 % 256) a2) (c1 % 256) b1.1 b1.2 (by omega)
    have e1 : decide (mn (c1 % 256) a2 < s0) = true := by simp; omega
    have e2 : decide (Go.bits .and .i64 (mn (c1 % 256) a2) (256 - 2 ^ j) < (top s6 s7).1) = true := by simp; omega
    have e3 : decide (c1 % 256 < mx s0 a3) = true := by simp; omega
    have e4 : decide (Go.bits .and .i64 (c1 % 256) (256 - 2 ^ j) < (top s6 s7).1) = true := by simpa using hr
    rw [e1, e2, e3, e4, hc, hon]
    rfl
  · rw [if_neg h]
theorem cpuifHigher_both (s0 s1 s2 : Int) (s3 s4 s5 : Bool) (s6 s7 : Int) (c0 c1 c2 : Int) (c3 : Bool) (a2 a3 : Int)
    (_ : (Lit.int .i64 s0).wf = true) (_ : (Lit.int .i64 s1).wf = true) (_ : (Lit.int .i64 s2).wf = true) (_ : (Lit.int .u32 s6).wf = true) (_ : (Lit.int .u32 s7).wf = true)
    (_ : (Lit.int .i64 c0).wf = true) (_ : (Lit.int .i64 c1).wf = true) (_ : (Lit.int .i64 c2).wf = true) (h2 : (Lit.int .u8 a2).wf = true) (h3 : (Lit.int .u8 a3).wf = true) (w : World) :
    Calls Try.prog 5 #[.agg #[.int .i64 s0, .int .i64 s1, .int .i64 s2, .bool s3, .bool s4, .bool s5, .int .u32 s6, .int .u32 s7], .agg #[.int .i64 c0, .int .i64 c1, .int .i64 c2, .bool c3], .int .u8 a2, .int .u8 a3] w fun en w' => en = .returned (.bool true) ∧ Below w.heap.size w w' :=
  crierlaw14_CpuifHigher.calls s0 s1 s2 s3 s4 s5 s6 s7 c0 c1 c2 c3 a2 a3 true w (CpuifHigher s0 s1 s2 s3 s4 s5 s6 s7 c0 c1 c2 c3 a2 a3 (wf_u8 h2) (wf_u8 h3)) (Aside0.mk rfl)
end Go.Proofs.Ytpjenhojldcmiaa.Pure
