/- Plain law of CpuifBack: all that the walk asks of what was taken. -/
import Derived.Test.YtpjenhojldcmiaaBk3
import Derived.Test.YtpjenhojldcmiaaCp4
namespace Go.Proofs.Ytpjenhojldcmiaa
theorem back_facts (m p0 p1 : Int) (o0 o1 : Bool) (a b pr gr pr2 : Int) (is is2 : Bool) (ha : W32 a) (hb : W32 b) (hm : mayP m p0 p1 o0 o1 a b (pr % 256 / 8 * 8) gr is = true) :
    ∃ lv, levP p0 p1 (pr % 256 / 8 * 8) gr = lv ∧ 0 ≤ lv ∧ lv < 256 ∧ lv / 8 * 8 = lv ∧
      top (setA .or a gr lv) (setB .or b gr lv) = (lv, gr % 2) ∧ mayP m p0 p1 o0 o1 (setA .or a gr lv) (setB .or b gr lv) (pr % 256 / 8 * 8) gr is = false ∧
      mayP m p0 p1 o0 o1 (setA .or a gr lv) (setB .or b gr lv) (bits .or .i64 (pr % 256 / 8 * 8) (bits .and .i64 pr2 7)) gr is2 = false ∧
      dropB' (setA .or a gr lv) (setB .or b gr lv) (gr % 2) = true ∧ dropA (setA .or a gr lv) (setB .or b gr lv) = a ∧ dropB (setA .or a gr lv) (setB .or b gr lv) = b := by
  obtain ⟨k, hk, hk'⟩ : ∃ k : Nat, k < 32 ∧ pr % 256 / 8 * 8 = 8 * (k : Int) := ⟨(pr % 256 / 8).toNat, by omega, by omega⟩
  rw [hk'] at hm ⊢
  obtain ⟨q, hq, hq'⟩ := lev_is (gr % 2) (ptP p0 p1 gr) k hk
  have hlv : levP p0 p1 (8 * (k : Int)) gr = 8 * (q : Int) := hq'
  have hlt : 8 * (q : Int) < (top a b).1 := by
    unfold mayP at hm
    rw [hq'] at hm
    simp only [Bool.and_eq_true, decide_eq_true_eq] at hm
    exact hm.2
  obtain ⟨h1, h2, h3⟩ := back_pure a b gr (8 * (q : Int)) q hq rfl ha hb hlt
  refine ⟨8 * (q : Int), hlv, by omega, by omega, by omega, h1, ?_, ?_, ?_, h2, h3⟩
  · unfold mayP
    rw [h1, hq']
    simp
  · unfold mayP
    rw [h1, and7, or_low7 _ _ (by omega) (by omega) (by omega) (by omega)]
    have := lev_mono (gr % 2) (ptP p0 p1 gr) (8 * (k : Int)) (8 * (k : Int) + pr2 % 8) (by omega) (by omega) (by omega)
    rw [hq'] at this
    rw [decide_eq_false (show ¬ bits .and .i64 (8 * (k : Int) + pr2 % 8) (maskP (gr % 2) (ptP p0 p1 gr)) < 8 * (q : Int) by omega)]
    simp
  · unfold dropB'
    rw [h1]
    simp
    omega
end Go.Proofs.Ytpjenhojldcmiaa
