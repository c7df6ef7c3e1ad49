/- What the laws of layer 20 share, in plain words: the document's list register of a number. -/
import Derived.Test.YtbhideabefjadaaP1
import Derived.Test.YtbhideabefjadaaIAllx15
namespace Go.Proofs.Ytbhideabefjadaa.Pure
open Go.RowKit Go.Proofs.Ytbhideabefjadaa.IAll Go.Proofs.YtbhideabefjadaaW.PrintWords Go.Proofs.YtbhideabefjadaaW.PrintLast Go.Proofs.YtbhideabefjadaaW.PrintMore
theorem tm (x d : Int) (h : 0 ≤ x) : Int.tmod x d = x % d := Int.tmod_eq_emod_of_nonneg h
theorem rdec_is (K : Nat) (v : Int) (h0 : 0 ≤ v) (h1 : v ≤ 18446744073709551615) :
    crierref20_Decode.f (K + 4) v = some (if okL (D v) ∧ EL (D v) = v then ((D v).s, (D v).n, (D v).p, (D v).g, (D v).h, (D v).m, (D v).t, true) else (0, 0, 0, 0, false, 0, false, false)) := by
  unfold crierref20_Decode.f
  rw [tm v _ h0, tm (v / 281474976710656) _ (by omega), tm (v / 1152921504606846976) _ (by omega), tm (v / 2305843009213693952) _ (by omega), tm (v / 4294967296) _ (by omega), tm (v / 2199023255552) _ (by omega)]
  rw [w64 (v / 4611686018427387904) (by omega), w64 (v % 4294967296) (by omega), w64 (v / 281474976710656 % 256) (by omega), w64 (v / 1152921504606846976 % 2) (by omega), w64 (v / 4294967296 % 1024) (by omega)]
  rw [show K + 4 = (K + 3) + 1 from rfl]
  simp only [crierref20_Decode.j0]
  by_cases hh : v / 2305843009213693952 % 2 = 1
  · have hb : hB v = true := beq_iff_eq.2 hh
    have hb' : (v / 2305843009213693952 % 2 == 1) = true := hb
    unfold okL EL D
    simp only [hb, hb', if_true, renc_is, show (K + 3 + 1) = (K + 1) + 3 from rfl, Option.bind_some, if_pos hh]
    generalize v / 4611686018427387904 = s
    generalize v % 4294967296 = n
    generalize v / 281474976710656 % 256 = p
    generalize v / 1152921504606846976 % 2 = g
    generalize v / 4294967296 % 1024 = m
    by_cases hk : ok s n p g true m false
    · simp only [hk, if_true, true_and]
      by_cases he : E s n p g true m false = v
      · rw [if_pos (beq_iff_eq.2 he), if_pos he]
      · rw [if_neg (by simpa using he), if_neg he]
    · simp only [hk, if_false, false_and, Bool.false_eq_true]
  · have hb : hB v = false := beq_eq_false_iff_ne.2 hh
    have hb' : (v / 2305843009213693952 % 2 == 1) = false := hb
    unfold okL EL D
    simp only [hb, hb', Bool.false_eq_true, if_false, renc_is, show (K + 3 + 1) = (K + 1) + 3 from rfl, Option.bind_some, if_neg hh]
    generalize v / 4611686018427387904 = s
    generalize v % 4294967296 = n
    generalize v / 281474976710656 % 256 = p
    generalize v / 1152921504606846976 % 2 = g
    generalize (v / 2199023255552 % 2 == 1) = t
    by_cases hk : ok s n p g false 0 t
    · simp only [hk, if_true, true_and]
      by_cases he : E s n p g false 0 t = v
      · rw [if_pos he, if_pos he]
      · rw [if_neg he, if_neg he]
    · simp only [hk, if_false, false_and, Bool.false_eq_true]
end Go.Proofs.Ytbhideabefjadaa.Pure
