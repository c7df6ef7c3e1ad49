/- A priority from 0 to 255 is its two parts together, by whatever binary point, and the parts share no bit: for every input, with no condition. -/
import Derived.Test.YtoldcfgedmjmfaaL06
namespace Go.Proofs.Ytoldcfgedmjmfaa.Pure
open Go.RowKit Go.Proofs.Ytoldcfgedmjmfaa.IAll Go.Proofs.YtoldcfgedmjmfaaW.PrintWords Go.Proofs.YtoldcfgedmjmfaaW.PrintLast

theorem and_apart (x y : Int) (j : Nat) (h0 : 0 ≤ y) (h1 : y < 2 ^ j) : bits .and .i64 (x * 2 ^ j) y = 0 := by
  refine ext_i64 (bits_i64_in _ _ _) ⟨by omega, by omega⟩ fun k hk => ?_
  rw [tb_and_i _ _ _ hk, tb_mul, tb_zero, ← Int.emod_eq_of_lt h0 h1, tb_mod]
  by_cases h : k < j
  · simp [h]; omega
  · simp [h]

theorem PrioParts : crierlaw06_PrioParts.Pure := by
  intro p g pt hp hg hpt
  have hb := wf_u8 hp
  unfold crierlaw06_PrioParts.f prio_Mask.f prio_Level.f prio_Sub.f
  have hj := maskJ_bd g pt
  unfold maskZ
  generalize maskJ g pt = j at *
  rw [awake_true, w64 p (by omega)]
  simp only [Option.bind_some, if_true]
  rw [and_bytemask _ j (by omega), andNot_bytemask _ j (by omega), and_bytemask _ j (by omega), andNot_bytemask _ j (by omega)]
  have hpos := (two_pow_le j (by omega)).1
  have e : p % 256 = p := by omega
  rw [e]
  have h1 := Int.emod_nonneg p (show (2 : Int) ^ j ≠ 0 by omega)
  have h2 := Int.emod_lt_of_pos p hpos
  have hs : p / 2 ^ j * 2 ^ j + p % 2 ^ j = p := Int.ediv_mul_add_emod p (2 ^ j)
  have h3 : 0 ≤ p / 2 ^ j * 2 ^ j := Int.mul_nonneg (Int.ediv_nonneg (by omega) (by omega)) (by omega)
  have h4 : p / 2 ^ j * 2 ^ j % 256 = p / 2 ^ j * 2 ^ j := Int.emod_eq_of_lt h3 (by omega)
  rw [and_apart _ _ _ h1 h2, w64 (p / 2 ^ j * 2 ^ j + p % 2 ^ j) (by omega), if_pos hs, if_pos rfl, h4, Int.mul_ediv_cancel _ (by omega), if_pos rfl, Int.emod_emod_of_dvd _ (Int.dvd_refl _)]
  simp

end Go.Proofs.Ytoldcfgedmjmfaa.Pure
