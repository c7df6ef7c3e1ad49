/- Two unlike list registers that may be have unlike numbers: for every input. -/
import Derived.Test.YtbhideabefjadaaP1
import Derived.Test.YtbhideabefjadaaIAllx7
namespace Go.Proofs.Ytbhideabefjadaa.Pure
open Go.RowKit Go.Proofs.Ytbhideabefjadaa.IAll Go.Proofs.YtbhideabefjadaaW.PrintWords Go.Proofs.YtbhideabefjadaaW.PrintLast Go.Proofs.YtbhideabefjadaaW.PrintMore

theorem LrApart (s n p g : Int) (h : Bool) (m : Int) (t : Bool) (s' n' p' g' : Int) (h' : Bool) (m' : Int) (t' : Bool) : crierlaw20_LrApart.f 20 s n p g h m t s' n' p' g' h' m' t' = some true := by
  unfold crierlaw20_LrApart.f
  rw [enc_is 18, enc_is 18, Option.bind_some, Option.bind_some, awake20, Option.bind_some, if_pos rfl]
  by_cases hk : ok s n p g h m t
  · by_cases hk' : ok s' n' p' g' h' m' t'
    · simp only [hk, hk', if_true]
      congr 1
      rw [beq_iff_eq, Bool.eq_iff_iff]
      simp only [Bool.and_eq_true, beq_iff_eq]
      constructor
      · rintro ⟨rfl, rfl, rfl, rfl, rfl, rfl, rfl⟩; rfl
      · intro he
        have h1 := D_E hk
        have h2 := D_E hk'
        rw [he, h2] at h1
        injection h1 with e1 e2 e3 e4 e5 e6 e7
        exact ⟨e1.symm, e2.symm, e3.symm, e4.symm, e5.symm, e6.symm, e7.symm⟩
    · simp [hk']
  · simp [hk]
theorem lrApart_both (s n p g : Int) (h : Bool) (m : Int) (t : Bool) (s' n' p' g' : Int) (h' : Bool) (m' : Int) (t' : Bool)
    (_ : (Lit.int .i64 s).wf = true) (_ : (Lit.int .i64 n).wf = true) (_ : (Lit.int .i64 p).wf = true) (_ : (Lit.int .i64 g).wf = true) (_ : (Lit.int .i64 m).wf = true)
    (_ : (Lit.int .i64 s').wf = true) (_ : (Lit.int .i64 n').wf = true) (_ : (Lit.int .i64 p').wf = true) (_ : (Lit.int .i64 g').wf = true) (_ : (Lit.int .i64 m').wf = true) (w : World) :
    Calls Try.prog 3 #[.agg #[.int .i64 s, .int .i64 n, .int .i64 p, .int .i64 g, .bool h, .int .i64 m, .bool t], .agg #[.int .i64 s', .int .i64 n', .int .i64 p', .int .i64 g', .bool h', .int .i64 m', .bool t']] w fun en w' => en = .returned (.bool true) ∧ Below w.heap.size w w' :=
  crierlaw20_LrApart.calls 20 s n p g h m t s' n' p' g' h' m' t' true w (LrApart s n p g h m t s' n' p' g' h' m' t') (Aside0.mk rfl)
end Go.Proofs.Ytbhideabefjadaa.Pure
