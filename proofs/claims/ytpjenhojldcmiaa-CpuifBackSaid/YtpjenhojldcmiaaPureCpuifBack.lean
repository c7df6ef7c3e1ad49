/- Proved here: what is taken runs as far as its priority's group goes, nothing of its level comes through until it is dropped, and then all is as it was: the law CpuifBack of layer 14 answers true at every input. -/
import Derived.Test.YtpjenhojldcmiaaBw
namespace Go.Proofs.Ytpjenhojldcmiaa
open Go.RowKit
theorem wfb_u32 {a : Int} (h : (Lit.int .u32 a).wf = true) : W32 a := by
  simpa [Lit.wf, IntKind.min, IntKind.max, IntKind.signed, IntKind.bits, W32] using h
theorem back_c (m p0 p1 : Int) (o0 o1 sp : Bool) (a b : Int) (id pr gr : Int) (is : Bool) (id2 pr2 gr2 : Int) (is2 : Bool) (ha : W32 a) (hb : W32 b) (w : World) :
    Calls Try.prog 3 #[.agg #[.int .i64 m, .int .i64 p0, .int .i64 p1, .bool o0, .bool o1, .bool sp, .int .u32 a, .int .u32 b], .agg #[.int .i64 id, .int .i64 pr, .int .i64 gr, .bool is], .agg #[.int .i64 id2, .int .i64 pr2, .int .i64 gr2, .bool is2]] w fun e w' => e = .returned (.bool true) ∧ Below w.heap.size w w' := by
  cases hm : mayP m p0 p1 o0 o1 a b (pr % 256 / 8 * 8) gr is with
  | false => exact back_no m p0 p1 o0 o1 sp a b id pr gr is id2 pr2 gr2 is2 w hm
  | true =>
    obtain ⟨lv, h1, h2, h3, h4, h5, h6, h7, h8, h9, h10⟩ := back_facts m p0 p1 o0 o1 a b pr gr pr2 is is2 ha hb hm
    unfold levP at h1
    rcases mod2 gr with hg | hg
    · have hp : ptP p0 p1 gr = p0 := by unfold ptP; rw [hg]; rfl
      rw [hg, hp] at h1
      rw [hg] at h5 h8
      exact back_yes0 m p0 p1 o0 o1 sp a b id pr gr is id2 pr2 gr2 is2 w _ lv _ _ hg h2 h3 hm rfl h1 h4 rfl rfl h5 h6 h7 h8 h9 h10 _ rfl
    · have hp : ptP p0 p1 gr = p1 := by unfold ptP; rw [hg]; rfl
      rw [hg, hp] at h1
      rw [hg] at h5 h8
      exact back_yes1 m p0 p1 o0 o1 sp a b id pr gr is id2 pr2 gr2 is2 w _ lv _ _ hg h2 h3 hm rfl h1 h4 rfl rfl h5 h6 h7 h8 h9 h10 _ rfl
end Go.Proofs.Ytpjenhojldcmiaa
namespace Go.Proofs.Ytpjenhojldcmiaa.Pure
open Go.RowKit
theorem cpuifBack_both (a0 a1 a2 : Int) (a3 a4 a5 : Bool) (a6 a7 : Int) (b0 b1 b2 : Int) (b3 : Bool) (c0 c1 c2 : Int) (c3 : Bool) (_w0 : (Lit.int .i64 a0).wf = true) (_w1 : (Lit.int .i64 a1).wf = true) (_w2 : (Lit.int .i64 a2).wf = true) (w6 : (Lit.int .u32 a6).wf = true) (w7 : (Lit.int .u32 a7).wf = true)
    (_v0 : (Lit.int .i64 b0).wf = true) (_v1 : (Lit.int .i64 b1).wf = true) (_v2 : (Lit.int .i64 b2).wf = true) (_u0 : (Lit.int .i64 c0).wf = true) (_u1 : (Lit.int .i64 c1).wf = true) (_u2 : (Lit.int .i64 c2).wf = true) (w : World) :
    Calls Try.prog 3 #[.agg #[.int .i64 a0, .int .i64 a1, .int .i64 a2, .bool a3, .bool a4, .bool a5, .int .u32 a6, .int .u32 a7], .agg #[.int .i64 b0, .int .i64 b1, .int .i64 b2, .bool b3], .agg #[.int .i64 c0, .int .i64 c1, .int .i64 c2, .bool c3]] w fun e w' => e = .returned (.bool true) ∧ Below w.heap.size w w' :=
  back_c a0 a1 a2 a3 a4 a5 a6 a7 b0 b1 b2 b3 c0 c1 c2 c3 (wfb_u32 w6) (wfb_u32 w7) w
end Go.Proofs.Ytpjenhojldcmiaa.Pure
