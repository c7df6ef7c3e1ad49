/- Those that are called rise, there are that many processors, and of all but one that one is left out: for every input. -/
import Derived.Test.YtfenchaiflfobaaP1
import Derived.Test.YtfenchaiflfobaaIAllx15
namespace Go.Proofs.Ytfenchaiflfobaa.Pure
open Go.RowKit Go.Proofs.Ytfenchaiflfobaa.IAll Go.Proofs.YtfenchaiflfobaaW.PrintWords Go.Proofs.YtfenchaiflfobaaW.PrintLast Go.Proofs.YtfenchaiflfobaaW.PrintMore

theorem rises_run (id : Int) (all odd : Bool) (t from_ cores : Int) (m : Nat) :
    ∀ (K i : Nat), i + m = (toL all odd t from_ cores).length → crierlaw12_SgiRises.l0 (m + 1 + K) from_ cores true (toL all odd t from_ cores) (i : Int) id all t odd = some true := by
  have hl := toL_length all odd t from_ cores
  have hcn := cnt_le cores
  induction m with
  | zero =>
    intro K i hi
    rw [show 0 + 1 + K = K + 1 by omega]
    unfold crierlaw12_SgiRises.l0
    rw [if_neg (by omega), mx_is, spread_is]
    cases all with
    | true =>
      have hlen := toUpto_all odd t from_ (cnt cores)
      rw [if_pos rfl]
      by_cases h1 : from_ ≥ 0
      · rw [if_pos h1]
        by_cases h2 : from_ < (cnt cores : Int)
        · rw [if_pos h2, if_pos rfl]
          rw [if_pos ⟨h1, h2⟩] at hlen
          unfold toL; rw [hlen]; simp
        · rw [if_neg h2, if_pos rfl]
          rw [if_neg (by omega)] at hlen
          unfold toL; rw [hlen]; simp
      · rw [if_neg h1, if_pos rfl]
        rw [if_neg (by omega)] at hlen
        unfold toL; rw [hlen]; simp
    | false =>
      rw [if_neg (by simp), if_pos rfl, Option.bind_some]
      have h1 := toUpto_le odd t from_ (cnt cores)
      have h2 := pop_add t (cnt cores) (16 - cnt cores)
      rw [show cnt cores + (16 - cnt cores) = 16 by omega] at h2
      rw [decide_eq_true (by unfold toL; omega)]
  | succ m ih =>
    intro K i hi
    rw [show m + 1 + 1 + K = (m + 1 + K) + 1 by omega]
    have hrec := ih K (i + 1) (by omega)
    have hilt : i < (toL all odd t from_ cores).length := by omega
    obtain ⟨k, k1, k2, k3⟩ := (mem_toUpto all odd t from_ _ (cnt cores)).1 (List.getElem_mem hilt)
    have hk : (k : Int) < cores := by unfold cnt at k1; omega
    have hx := rd_eq (toL all odd t from_ cores) i hilt
    have hxk : rd (toL all odd t from_ cores) (i : Int) = (k : Int) := hx.trans k3
    unfold crierlaw12_SgiRises.l0
    rw [if_pos (by omega), if_pos (by omega), if_neg (by omega), if_neg (by omega), if_neg (by omega), w64 ((i : Int) + 1) (by omega)]
    have hne : all = true → ¬ rd (toL all odd t from_ cores) (i : Int) = from_ := by
      intro ha; subst ha
      rw [hxk]
      simpa [called] using k2
    have tail : (if all = true then (if rd (toL all odd t from_ cores) (i : Int) = from_ then some false else crierlaw12_SgiRises.l0 (m + 1 + K) from_ cores true (toL all odd t from_ cores) ((i : Int) + 1) id all t odd) else crierlaw12_SgiRises.l0 (m + 1 + K) from_ cores true (toL all odd t from_ cores) ((i : Int) + 1) id all t odd) = some true := by
      have hrec' : crierlaw12_SgiRises.l0 (m + 1 + K) from_ cores true (toL all odd t from_ cores) ((i : Int) + 1) id all t odd = some true := by exact_mod_cast hrec
      by_cases ha : all = true
      · rw [if_pos ha, if_neg (hne ha)]; exact hrec'
      · rw [if_neg ha]; exact hrec'
    by_cases h0 : (i : Int) > 0
    · have hs := List.pairwise_iff_getElem.1 (toUpto_sorted all odd t from_ (cnt cores)) (i - 1) i (by have := hilt; unfold toL at this; omega) hilt (by omega)
      have hx' := rd_eq (toL all odd t from_ cores) (i - 1) (by omega)
      rw [if_pos h0, w64 ((i : Int) - 1) (by omega), if_pos (by omega), if_pos (by omega), if_neg (by
        rw [show ((i : Int) - 1) = ((i - 1 : Nat) : Int) by omega, hx', hx]; unfold toL; omega)]
      exact tail
    · rw [if_neg h0]; exact tail

theorem SgiRises : crierlaw12_SgiRises.Pure := by
  intro v from_ cores hv hf hc
  refine ⟨40, ?_⟩
  unfold crierlaw12_SgiRises.f crierlaw12_to.f
  rw [awake_true 40 (by omega), Option.bind_some, if_pos rfl]
  obtain ⟨⟨id, all, t, odd⟩, hd⟩ : ∃ r, sgi_Decode.f v = some r := by
    unfold sgi_Decode.f
    split
    · split
      · split <;> exact ⟨_, rfl⟩
      · exact ⟨_, rfl⟩
    · exact ⟨_, rfl⟩
  rw [hd]
  simp only [Option.bind_some]
  have hl := toL_length all odd t from_ cores
  have h := rises_run id all odd t from_ cores (toL all odd t from_ cores).length (39 - (toL all odd t from_ cores).length) 0 (by omega)
  rw [show (toL all odd t from_ cores).length + 1 + (39 - (toL all odd t from_ cores).length) = 40 by omega] at h
  exact h
end Go.Proofs.Ytfenchaiflfobaa.Pure
