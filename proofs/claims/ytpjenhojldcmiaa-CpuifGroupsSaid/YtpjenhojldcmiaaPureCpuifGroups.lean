/- Proved here: a group that is off takes nothing and shows nothing, and a drop by a group lets nothing of the other one go: the law CpuifGroups of layer 14 answers true at every input. -/
import Derived.Test.YtpjenhojldcmiaaGw
import Derived.Test.YtpjenhojldcmiaaGw2
import Derived.Test.YtpjenhojldcmiaaGw3
namespace Go.Proofs.Ytpjenhojldcmiaa
open Go.RowKit
theorem wfg_u32 {a : Int} (h : (Lit.int .u32 a).wf = true) : W32 a := by
  simpa [Lit.wf, IntKind.min, IntKind.max, IntKind.signed, IntKind.bits, W32] using h
theorem off_may (m p0 p1 : Int) (o0 o1 : Bool) (a b pr gp : Int) (is : Bool) (h : onP o0 o1 gp = false) : mayP m p0 p1 o0 o1 a b pr gp is = false := by
  unfold mayP; rw [h]; simp
theorem off_shows (o0 o1 : Bool) (id gp : Int) (is : Bool) (h : onP o0 o1 gp = false) : showsP o0 o1 id gp is gp = 1023 := by
  unfold showsP; rw [h]; simp
theorem pair_fst {q : Int × Int} {x : Int} (e : q.1 = x) : q = (x, q.2) := by subst e; rfl
/-- what letting go does to the words -/
theorem dropped (a b gp : Int) (ha : W32 a) (hb : W32 b) (h : dropB' a b gp = true) :
    ((top a b).1 != 255) = true ∧ ((top a b).2 == gp) = true ∧ ((gp % 2 = 0 ∧ dropB a b = b) ∨ (gp % 2 = 1 ∧ dropA a b = a)) ∧ W32 (dropA a b) ∧ W32 (dropB a b) ∧
      pop a 32 + pop b 32 = pop (dropA a b) 32 + pop (dropB a b) 32 + 1 := by
  unfold dropB' at h
  rw [Bool.and_eq_true] at h
  rcases least (rb a b) 64 with hn | ⟨n, h1, h2, h3⟩
  · rw [top_none a b hn] at h
    simp at h
  · obtain ⟨e1, e2, -⟩ := drop_first a b n h1 h2 h3
    have ht := top_first a b n h1 h2 h3
    obtain ⟨w1, w2⟩ := drop_w32 a b ha hb
    refine ⟨by simpa [bne] using h.1, h.2, ?_, w1, w2, drop_pop a b n h1 h2 h3⟩
    have hg : ((n % 2 : Nat) : Int) = gp := by have := h.2; rw [ht] at this; simpa using this
    rcases Nat.mod_two_eq_zero_or_one n with e | e
    · rw [if_pos e] at e2
      exact .inl ⟨by rw [← hg, e]; rfl, e2⟩
    · rw [if_neg (by omega)] at e1
      exact .inr ⟨by rw [← hg, e]; rfl, e1⟩
theorem not_dropped (a b gp : Int) (h : dropB' a b gp = false) : (top a b).1 = 255 ∨ (((top a b).1 != 255) = true ∧ ((top a b).2 == gp) = false) := by
  unfold dropB' at h
  by_cases e : (top a b).1 = 255
  · exact .inl e
  · refine .inr ⟨by simpa [bne] using e, ?_⟩
    rw [show ((top a b).1 == 255) = false by simpa using e] at h
    simpa using h
theorem groups_c (m p0 p1 : Int) (o0 o1 sp : Bool) (a b : Int) (id pr gr : Int) (is : Bool) (gp : Int) (ha : W32 a) (hb : W32 b) (w : World) :
    Calls Try.prog 7 #[.agg #[.int .i64 m, .int .i64 p0, .int .i64 p1, .bool o0, .bool o1, .bool sp, .int .u32 a, .int .u32 b], .agg #[.int .i64 id, .int .i64 pr, .int .i64 gr, .bool is], .int .i64 gp] w fun e w' => e = .returned (.bool true) ∧ Below w.heap.size w w' := by
  rcases mod2 gp with hg | hg
  · have hoff : onP false o1 gp = false := by unfold onP; rw [if_pos hg]
    have hm := off_may m p0 p1 false o1 a b pr gp is hoff
    have hs := off_shows false o1 id gp is hoff
    cases hd : dropB' a b gp with
    | false =>
      rcases not_dropped a b gp hd with e | ⟨e1, e2⟩
      · exact groups_A0 m p0 p1 o0 o1 sp a b id pr gr is gp w (top a b).2 hg hm hs (pair_fst e) hd
      · exact groups_B0 m p0 p1 o0 o1 sp a b id pr gr is gp w (top a b).1 (top a b).2 hg hm hs (pair_fst rfl) e1 hd e2
    | true =>
      obtain ⟨e1, e2, e3, e4, e5, e6⟩ := dropped a b gp ha hb hd
      have e7 : dropB a b = b := by rcases e3 with h | h; exact h.2; omega
      have l1 := pop_le a 32
      have l2 := pop_le b 32
      rw [e7] at e6
      exact groups_C0 m p0 p1 o0 o1 sp a b id pr gr is gp w (dropA a b) (dropB a b) (top a b).1 (top a b).2 ((pop a 32 + pop b 32 : Nat) : Int) hg ha hb hm hs (pair_fst rfl) e1 hd e2 rfl rfl e4 e7 rfl (by omega) (by omega) (by omega)
  · have hoff : onP o0 false gp = false := by unfold onP; rw [if_neg (by omega)]
    have hm := off_may m p0 p1 o0 false a b pr gp is hoff
    have hs := off_shows o0 false id gp is hoff
    cases hd : dropB' a b gp with
    | false =>
      rcases not_dropped a b gp hd with e | ⟨e1, e2⟩
      · exact groups_A1 m p0 p1 o0 o1 sp a b id pr gr is gp w (top a b).2 hg hm hs (pair_fst e) hd
      · exact groups_B1 m p0 p1 o0 o1 sp a b id pr gr is gp w (top a b).1 (top a b).2 hg hm hs (pair_fst rfl) e1 hd e2
    | true =>
      obtain ⟨e1, e2, e3, e4, e5, e6⟩ := dropped a b gp ha hb hd
      have e7 : dropA a b = a := by rcases e3 with h | h; omega; exact h.2
      have l1 := pop_le a 32
      have l2 := pop_le b 32
      rw [e7] at e6
      exact groups_C1 m p0 p1 o0 o1 sp a b id pr gr is gp w (dropA a b) (dropB a b) (top a b).1 (top a b).2 ((pop a 32 + pop b 32 : Nat) : Int) hg ha hb hm hs (pair_fst rfl) e1 hd e2 rfl rfl e5 e7 rfl (by omega) (by omega) (by omega)
end Go.Proofs.Ytpjenhojldcmiaa
namespace Go.Proofs.Ytpjenhojldcmiaa.Pure
open Go.RowKit
theorem cpuifGroups_both (a0 a1 a2 : Int) (a3 a4 a5 : Bool) (a6 a7 : Int) (b0 b1 b2 : Int) (b3 : Bool) (c0 : Int) (_w0 : (Lit.int .i64 a0).wf = true) (_w1 : (Lit.int .i64 a1).wf = true) (_w2 : (Lit.int .i64 a2).wf = true) (w6 : (Lit.int .u32 a6).wf = true) (w7 : (Lit.int .u32 a7).wf = true)
    (_v0 : (Lit.int .i64 b0).wf = true) (_v1 : (Lit.int .i64 b1).wf = true) (_v2 : (Lit.int .i64 b2).wf = true) (_u0 : (Lit.int .i64 c0).wf = true) (w : World) :
    Calls Try.prog 7 #[.agg #[.int .i64 a0, .int .i64 a1, .int .i64 a2, .bool a3, .bool a4, .bool a5, .int .u32 a6, .int .u32 a7], .agg #[.int .i64 b0, .int .i64 b1, .int .i64 b2, .bool b3], .int .i64 c0] w fun e w' => e = .returned (.bool true) ∧ Below w.heap.size w w' :=
  groups_c a0 a1 a2 a3 a4 a5 a6 a7 b0 b1 b2 b3 c0 (wfg_u32 w6) (wfg_u32 w7) w
end Go.Proofs.Ytpjenhojldcmiaa.Pure
