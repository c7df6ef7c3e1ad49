/- Contract by hand of layer 14: what is taken, as the walks above ask it. -/
import Derived.Test.YtpjenhojldcmiaaIAllx6
import Derived.Test.YtpjenhojldcmiaaHT
namespace Go.Proofs.Ytpjenhojldcmiaa.IAll
open Go.RowKit Go.Proofs.YtpjenhojldcmiaaW.PrintWords Go.Proofs.YtpjenhojldcmiaaW.PrintLast Go.Proofs.YtpjenhojldcmiaaW.PrintMore

theorem cpuif_If_Take.calls (g : Nat) (s0 s1 s2 : Int) (s3 s4 s5 : Bool) (s6 s7 : Int) (c0 c1 c2 : Int) (c3 : Bool) (a2 : Int)
    (r1 : Int) (r2 : Bool) (r3 r4 r5 : Int) (r6 r7 r8 : Bool) (r9 r10 : Int) (w0 w : World)
    (hI : IsS29 w0 w g s0 s1 s2 s3 s4 s5 s6 s7) (hB : Below w0.heap.size w0 w)
    (h : cpuif_If_Take.f s0 s1 s2 s3 s4 s5 s6 s7 c0 c1 c2 c3 a2 = some (r1, r2, r3, r4, r5, r6, r7, r8, r9, r10)) :
    Calls Try.prog 10 #[.pointer (some ⟨g, 0, none⟩), .agg #[.int .i64 c0, .int .i64 c1, .int .i64 c2, .bool c3], .int .i64 a2] w fun e w' =>
      e = .returned (.tuple #[.int .i64 r1, .bool r2]) ∧ IsS29 w0 w' g r3 r4 r5 r6 r7 r8 r9 r10 ∧ Below w0.heap.size w0 w' ∧ KeepBut w w' g none := by
  unfold cpuif_If_Take.f at h
  cases hm : cpuif_If_May.f s0 s1 s2 s3 s4 s5 s6 s7 c0 c1 c2 c3 with
  | none => rw [hm] at h; cases h
  | some m =>
    rw [hm] at h
    simp only [Option.bind] at h
    cases m with
    | false =>
      simp only [Bool.false_eq_true, if_false, Option.some.injEq, Prod.mk.injEq] at h
      obtain ⟨rfl, rfl, rfl, rfl, rfl, rfl, rfl, rfl, rfl, rfl⟩ := h
      refine (take_no1 g _ _ _ _ _ _ _ _ c0 c1 c2 c3 a2 w hI.1 hm).mono ?_
      rintro e w' ⟨rfl, hb⟩
      exact ⟨rfl, hI.below hb, below_step hB hb, KeepBut.of_below hb g none⟩
    | true =>
      simp only [if_true] at h
      by_cases hn : c2 = a2
      · rw [if_pos hn] at h
        cases hk : cpuif_If_mask.f s0 s1 s2 s3 s4 s5 s6 s7 a2 with
        | none => rw [hk] at h; cases h
        | some k =>
          rw [hk] at h
          simp only at h
          cases hp : ladder_Ladder_Push.f s6 s7 a2 (Go.bits .and .i64 c1 k) with
          | none => rw [hp] at h; cases h
          | some p =>
            obtain ⟨p1, p2⟩ := p
            rw [hp] at h
            simp only [Option.some.injEq, Prod.mk.injEq] at h
            obtain ⟨rfl, rfl, rfl, rfl, rfl, rfl, rfl, rfl, rfl, rfl⟩ := h
            refine (take_yes g _ _ _ _ _ _ _ _ c0 c1 c2 c3 a2 w hI.1 hm (by simp [bne, hn]) k hk p1 p2 hp).mono ?_
            rintro e w' ⟨rfl, hu⟩
            obtain ⟨hg', ho, ht, hout, hsz, hbl⟩ := hu
            refine ⟨rfl, ⟨hg', hI.2⟩, ⟨ho.trans hB.os, ht.trans hB.tape, hout.trans hB.output, Nat.le_trans hB.size hsz, fun k hk => ?_⟩, hsz, fun i hi hne _ => hbl i hi hne⟩
            exact (hbl k (Nat.lt_of_lt_of_le hk hB.size) (by have := hI.2; omega)).trans (hB.block k hk)
      · rw [if_neg hn] at h
        simp only [Option.some.injEq, Prod.mk.injEq] at h
        obtain ⟨rfl, rfl, rfl, rfl, rfl, rfl, rfl, rfl, rfl, rfl⟩ := h
        refine (take_no2 g _ _ _ _ _ _ _ _ c0 c1 c2 c3 a2 w hI.1 hm (by simp [bne, hn])).mono ?_
        rintro e w' ⟨rfl, hb⟩
        exact ⟨rfl, hI.below hb, below_step hB hb, KeepBut.of_below hb g none⟩
end Go.Proofs.Ytpjenhojldcmiaa.IAll
