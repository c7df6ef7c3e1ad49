/- Of some interrupts the one that comes through first comes through: for every input. -/
import Derived.Test.YtpjenhojldcmiaaP0
import Derived.Test.YtpjenhojldcmiaaIAllx14
namespace Go.Proofs.Ytpjenhojldcmiaa.Pure.Through
set_option linter.unusedVariables false
set_option linter.unusedSimpArgs false
open Go.RowKit Go.Proofs.Ytpjenhojldcmiaa Go.Proofs.Ytpjenhojldcmiaa.IAll Go.Proofs.YtpjenhojldcmiaaW.PrintWords Go.Proofs.YtpjenhojldcmiaaW.PrintLast Go.Proofs.YtpjenhojldcmiaaW.PrintMore

theorem awake14 : crierlaw14_awake.f = some true := by decide +kernel
section
variable (s0 s1 s2 : Int) (s3 s4 s5 : Bool) (s6 s7 : Int) (xs : List S31)
def mayB (p : S31) : Bool := (cpuif_If_May.f s0 s1 s2 s3 s4 s5 s6 s7 p.f0 p.f1 p.f2 p.f3).getD false
theorem may_some (p : S31) : cpuif_If_May.f s0 s1 s2 s3 s4 s5 s6 s7 p.f0 p.f1 p.f2 p.f3 = some (mayB s0 s1 s2 s3 s4 s5 s6 s7 p) := by
  obtain ⟨j, hj, hm⟩ := mask_ex s0 s1 s2 s3 s4 s5 s6 s7 p.f2
  unfold mayB
  rw [may_is _ _ _ _ _ _ _ _ _ _ _ _ _ (hm _ _ _ _ _ _), Option.getD_some]
theorem mayB_is (p : S31) (h : mayB s0 s1 s2 s3 s4 s5 s6 s7 p = true) : p.f3 = true := by
  obtain ⟨j, hj, hm⟩ := mask_ex s0 s1 s2 s3 s4 s5 s6 s7 p.f2
  unfold mayB at h
  rw [may_is _ _ _ _ _ _ _ _ _ _ _ _ _ (hm _ _ _ _ _ _), Option.getD_some] at h
  simp only [Bool.and_eq_true] at h
  exact h.1.1.1
def bef (p b : S31) : Bool := decide (p.f1 < b.f1) || (decide (p.f1 = b.f1) && decide (p.f0 < b.f0))
theorem before_is (p b : S31) : prio_Before.f p.f1 p.f0 b.f1 b.f0 = some (bef p b) := by
  unfold prio_Before.f bef
  by_cases h1 : p.f1 < b.f1
  · simp [h1]
  · by_cases h2 : p.f1 = b.f1
    · simp [h2]
    · simp [h1, h2]
theorem before06_is (p b : S31) : crierref06_Before.f p.f1 p.f0 b.f1 b.f0 = some (bef p b) := by
  unfold crierref06_Before.f bef
  by_cases h2 : p.f1 = b.f1
  · simp [h2]
  · simp [h2]
theorem bef_irr (p : S31) : bef p p = false := by simp [bef]
theorem bef_chain (p b q : S31) (h1 : bef p b = true) (h2 : bef q b = false) : bef q p = false := by
  simp only [bef, Bool.or_eq_true, Bool.and_eq_true, decide_eq_true_eq, Bool.or_eq_false_iff, decide_eq_false_iff_not, Bool.and_eq_false_iff] at *
  omega
def step (b p : S31) : S31 := if mayB s0 s1 s2 s3 s4 s5 s6 s7 p = true then (if b.f3 = true then (if bef p b = true then p else b) else p) else b
def best : Nat → S31
  | 0 => z31
  | n + 1 => step s0 s1 s2 s3 s4 s5 s6 s7 (best n) (rd_T31 xs (n : Int))
theorem wstep (i : Nat) (hi : i < xs.length) (hn : xs.length ≤ 9223372036854775807) : wrap64 ((i : Int) + 1) = ((i + 1 : Nat) : Int) := by unfold wrap64; omega
theorem thr_run (hn : xs.length ≤ 9223372036854775807) : ∀ (d k i : Nat), i + d = xs.length → d < k →
    cpuif_If_Through.l0 k xs (xs.length : Int) (i : Int) s0 s1 s2 s3 s4 s5 s6 s7 (best s0 s1 s2 s3 s4 s5 s6 s7 xs i).f0 (best s0 s1 s2 s3 s4 s5 s6 s7 xs i).f1 (best s0 s1 s2 s3 s4 s5 s6 s7 xs i).f2 (best s0 s1 s2 s3 s4 s5 s6 s7 xs i).f3 =
      some ((best s0 s1 s2 s3 s4 s5 s6 s7 xs xs.length).f0, (best s0 s1 s2 s3 s4 s5 s6 s7 xs xs.length).f1, (best s0 s1 s2 s3 s4 s5 s6 s7 xs xs.length).f2, (best s0 s1 s2 s3 s4 s5 s6 s7 xs xs.length).f3, (best s0 s1 s2 s3 s4 s5 s6 s7 xs xs.length).f3)
  | 0, k + 1, i, hi, _ => by
    have e : i = xs.length := by omega
    subst e
    rw [cpuif_If_Through.l0, if_neg (by omega)]
  | d + 1, k + 1, i, hi, hk => by
    have ih := thr_run hn d k (i + 1) (by omega) (by omega)
    rw [best] at ih
    unfold step at ih
    rw [cpuif_If_Through.l0, if_pos (by omega), if_pos (by omega), if_pos (by omega), may_some, Option.bind_some, wstep xs i (by omega) hn, before_is, Option.bind_some]
    by_cases hm : mayB s0 s1 s2 s3 s4 s5 s6 s7 (rd_T31 xs (i : Int)) = true
    · rw [if_pos hm] at ih ⊢
      by_cases h3 : (best s0 s1 s2 s3 s4 s5 s6 s7 xs i).f3 = true
      · rw [if_pos h3] at ih ⊢
        by_cases hb : bef (rd_T31 xs (i : Int)) (best s0 s1 s2 s3 s4 s5 s6 s7 xs i) = true
        · rw [if_pos hb] at ih ⊢; exact ih
        · rw [if_neg hb] at ih ⊢; exact ih
      · rw [if_neg h3] at ih ⊢; exact ih
    · rw [if_neg hm] at ih ⊢; exact ih
theorem best_inv : ∀ n : Nat, (best s0 s1 s2 s3 s4 s5 s6 s7 xs n = z31 ∧ ∀ j : Nat, j < n → mayB s0 s1 s2 s3 s4 s5 s6 s7 (rd_T31 xs (j : Int)) = false) ∨
    (mayB s0 s1 s2 s3 s4 s5 s6 s7 (best s0 s1 s2 s3 s4 s5 s6 s7 xs n) = true ∧ (∃ j : Nat, j < n ∧ rd_T31 xs (j : Int) = best s0 s1 s2 s3 s4 s5 s6 s7 xs n) ∧ ∀ j : Nat, j < n → mayB s0 s1 s2 s3 s4 s5 s6 s7 (rd_T31 xs (j : Int)) = true → bef (rd_T31 xs (j : Int)) (best s0 s1 s2 s3 s4 s5 s6 s7 xs n) = false)
  | 0 => .inl ⟨rfl, fun j hj => absurd hj (Nat.not_lt_zero j)⟩
  | n + 1 => by
    have ih := best_inv n
    rw [best]
    generalize best s0 s1 s2 s3 s4 s5 s6 s7 xs n = B at ih ⊢
    unfold step
    by_cases hm : mayB s0 s1 s2 s3 s4 s5 s6 s7 (rd_T31 xs (n : Int)) = true
    · rw [if_pos hm]
      refine .inr ?_
      rcases ih with ⟨rfl, hno⟩ | ⟨hB, ⟨j0, hj0, ej0⟩, hall⟩
      · rw [if_neg (show ¬ z31.f3 = true by decide)]
        refine ⟨hm, ⟨n, by omega, rfl⟩, fun j hj hmj => ?_⟩
        by_cases e : j = n
        · subst e; exact bef_irr _
        · rw [hno j (by omega)] at hmj; cases hmj
      · rw [if_pos (mayB_is _ _ _ _ _ _ _ _ _ hB)]
        by_cases hb : bef (rd_T31 xs (n : Int)) B = true
        · rw [if_pos hb]
          refine ⟨hm, ⟨n, by omega, rfl⟩, fun j hj hmj => ?_⟩
          by_cases e : j = n
          · subst e; exact bef_irr _
          · exact bef_chain _ _ _ hb (hall j (by omega) hmj)
        · rw [if_neg hb]
          refine ⟨hB, ⟨j0, by omega, ej0⟩, fun j hj hmj => ?_⟩
          by_cases e : j = n
          · subst e; exact Bool.eq_false_iff.mpr hb
          · exact hall j (by omega) hmj
    · rw [if_neg hm]
      rcases ih with ⟨rfl, hno⟩ | ⟨hB, ⟨j0, hj0, ej0⟩, hall⟩
      · refine .inl ⟨rfl, fun j hj => ?_⟩
        by_cases e : j = n
        · subst e; exact Bool.eq_false_iff.mpr hm
        · exact hno j (by omega)
      · refine .inr ⟨hB, ⟨j0, by omega, ej0⟩, fun j hj hmj => ?_⟩
        by_cases e : j = n
        · subst e; exact absurd hmj hm
        · exact hall j (by omega) hmj
theorem eq_is (p b : S31) : (p.f0 == b.f0 && (p.f1 == b.f1 && (p.f2 == b.f2 && (p.f3 == b.f3)))) = true ↔ p = b := by
  cases p; cases b; simp
theorem law_run (hn : xs.length ≤ 9223372036854775807) (B : S31) (hall : ∀ j : Nat, j < xs.length → mayB s0 s1 s2 s3 s4 s5 s6 s7 (rd_T31 xs (j : Int)) = true → B.f3 = true ∧ bef (rd_T31 xs (j : Int)) B = false)
    (hfin : B.f3 = true ↔ ∃ j : Nat, j < xs.length ∧ mayB s0 s1 s2 s3 s4 s5 s6 s7 (rd_T31 xs (j : Int)) = true ∧ rd_T31 xs (j : Int) = B) :
    ∀ (d k i : Nat) (x8 : Bool), i + d = xs.length → d < k → (x8 = true ↔ ∃ j : Nat, j < i ∧ mayB s0 s1 s2 s3 s4 s5 s6 s7 (rd_T31 xs (j : Int)) = true ∧ rd_T31 xs (j : Int) = B) →
    crierlaw14_CpuifThrough.l0 k xs true B.f3 x8 (i : Int) s0 s1 s2 s3 s4 s5 s6 s7 B.f0 B.f1 B.f2 B.f3 = some true
  | 0, k + 1, i, x8, hi, _, h8 => by
    have e : i = xs.length := by omega
    subst e
    rw [crierlaw14_CpuifThrough.l0, if_neg (by omega), if_pos rfl]
    have : x8 = B.f3 := Bool.eq_iff_iff.mpr (h8.trans hfin.symm)
    rw [this]; simp
  | d + 1, k + 1, i, x8, hi, hk, h8 => by
    have ih := fun x8' => law_run hn B hall hfin d k (i + 1) x8' (by omega) (by omega)
    rw [crierlaw14_CpuifThrough.l0, if_pos (by omega), if_pos (by omega), may_some, Option.bind_some, wstep xs i (by omega) hn, before06_is, Option.bind_some]
    by_cases hm : mayB s0 s1 s2 s3 s4 s5 s6 s7 (rd_T31 xs (i : Int)) = true
    · obtain ⟨hB3, hb⟩ := hall i (by omega) hm
      rw [if_pos hm, if_pos hB3, if_neg (by rw [hb]; decide)]
      by_cases h : x8 = true
      · rw [if_pos h]
        refine ih true ⟨fun _ => ?_, fun _ => rfl⟩
        obtain ⟨j, hj, h'⟩ := h8.1 h
        exact ⟨j, by omega, h'⟩
      · rw [if_neg h]
        refine ih _ ?_
        rw [eq_is]
        constructor
        · intro e; exact ⟨i, by omega, hm, e⟩
        · rintro ⟨j, hj, hmj, ej⟩
          by_cases e : j = i
          · subst e; exact ej
          · exact absurd (h8.2 ⟨j, by omega, hmj, ej⟩) h
    · rw [if_neg hm]
      refine ih x8 (h8.trans ⟨fun ⟨j, hj, h'⟩ => ⟨j, by omega, h'⟩, fun ⟨j, hj, hmj, ej⟩ => ?_⟩)
      by_cases e : j = i
      · subst e; exact absurd hmj hm
      · exact ⟨j, by omega, hmj, ej⟩
theorem CpuifThrough (hn : xs.length ≤ 9223372036854775807) : crierlaw14_CpuifThrough.f (xs.length + 2) s0 s1 s2 s3 s4 s5 s6 s7 xs = some true := by
  unfold crierlaw14_CpuifThrough.f cpuif_If_Through.f
  have h := thr_run s0 s1 s2 s3 s4 s5 s6 s7 xs hn xs.length (xs.length + 2) 0 (by omega) (by omega)
  have hi := best_inv s0 s1 s2 s3 s4 s5 s6 s7 xs xs.length
  have ez : best s0 s1 s2 s3 s4 s5 s6 s7 xs 0 = z31 := rfl
  rw [ez] at h
  rw [show cpuif_If_Through.l0 (xs.length + 2) xs (xs.length : Int) 0 s0 s1 s2 s3 s4 s5 s6 s7 0 0 0 false = _ from h, awake14, Option.bind_some, if_pos rfl, Option.bind_some]
  clear h ez
  generalize best s0 s1 s2 s3 s4 s5 s6 s7 xs xs.length = B at hi
  dsimp only
  rcases hi with ⟨rfl, hno⟩ | ⟨hB, ⟨j0, hj0, ej0⟩, hall⟩
  · rw [if_neg (show ¬ z31.f3 = true by decide), crierlaw14_CpuifThrough.j0, if_neg (by decide)]
    refine law_run s0 s1 s2 s3 s4 s5 s6 s7 xs hn z31 (fun j hj hm => ?_) ⟨fun h => ?_, fun ⟨j, hj, hm, _⟩ => ?_⟩ xs.length _ 0 false (by omega) (by omega) ⟨fun h => (by cases h), fun ⟨j, hj, _⟩ => absurd hj (Nat.not_lt_zero j)⟩
    · rw [hno j hj] at hm; cases hm
    · cases h
    · rw [hno j hj] at hm; cases hm
  · have hB3 := mayB_is _ _ _ _ _ _ _ _ _ hB
    rw [if_pos hB3, may_some, Option.bind_some, if_pos hB, crierlaw14_CpuifThrough.j0, if_neg (by decide)]
    exact law_run s0 s1 s2 s3 s4 s5 s6 s7 xs hn B (fun j hj hm => ⟨hB3, hall j hj hm⟩) ⟨fun _ => ⟨j0, hj0, by rw [ej0]; exact hB, ej0⟩, fun _ => hB3⟩ xs.length _ 0 false (by omega) (by omega) ⟨fun h => (by cases h), fun ⟨j, hj, _⟩ => absurd hj (Nat.not_lt_zero j)⟩
end
theorem cpuifThrough_both (s0 s1 s2 : Int) (s3 s4 s5 : Bool) (s6 s7 : Int) (A : Option Addr) (c : Nat) (l : List S31) (w : World)
    (_ : (Lit.int .i64 s0).wf = true) (_ : (Lit.int .i64 s1).wf = true) (_ : (Lit.int .i64 s2).wf = true) (_ : (Lit.int .u32 s6).wf = true) (_ : (Lit.int .u32 s7).wf = true)
    (hr : Kd.C k31 w A l.length l) (hc : l.length ≤ c) (hm : c ≤ maxLen)
    (_ : ∀ p ∈ l, (Lit.int .i64 p.f0).wf = true ∧ (Lit.int .i64 p.f1).wf = true ∧ (Lit.int .i64 p.f2).wf = true) :
    Calls Try.prog 6 #[.agg #[.int .i64 s0, .int .i64 s1, .int .i64 s2, .bool s3, .bool s4, .bool s5, .int .u32 s6, .int .u32 s7], .slice A l.length c] w fun en w' => en = .returned (.bool true) ∧ Below w.heap.size w w' :=
  crierlaw14_CpuifThrough.calls (l.length + 2) s0 s1 s2 s3 s4 s5 s6 s7 A c l true w hr hc (CpuifThrough s0 s1 s2 s3 s4 s5 s6 s7 l (Nat.le_trans hc (Nat.le_trans hm (by unfold maxLen; omega)))) (Aside0.mk rfl)
end Go.Proofs.Ytpjenhojldcmiaa.Pure.Through
