/- In whatever order priorities are pushed, the ladder is the same, and each of them runs: for every input. -/
import Derived.Test.YtafmacngboeanaaP1
import Derived.Test.YtafmacngboeanaaIAllx7
namespace Go.Proofs.Ytafmacngboeanaa.Pure
open Go.RowKit Go.Proofs.Ytafmacngboeanaa.IAll Go.Proofs.YtafmacngboeanaaW.PrintWords Go.Proofs.YtafmacngboeanaaW.PrintLast

/-- the place an act pushes to -/
def place (x : S39) : Nat := 2 * pl x.f2 + (x.f1 % 2).toNat
theorem place_lt (x : S39) : place x < 64 := by have := pl_lt x.f2; unfold place; omega
def anyAt (xs : List S39) (q : Nat) : Bool := xs.any fun x => decide (q = place x)

theorem push_pop (a b g p : Int) : pop (setA .or a g p) 32 + pop (setB .or b g p) 32 ≤ pop a 32 + pop b 32 + 1 := by
  have hm := push_bits a b g p
  have hl := pl_lt p
  have hn : 2 * pl p + (g % 2).toNat < 64 := by omega
  have hat := hm _ hn
  cases h : rb a b (2 * pl p + (g % 2).toNat) with
  | true =>
    have e1 := pop_congr (setA .or a g p) a 32 (fun k hk => by
      have := hm (2 * k) (by omega); rw [rb_even, rb_even] at this; rw [this]
      by_cases e : 2 * k = 2 * pl p + (g % 2).toNat
      · rw [← e, rb_even] at h; simp [h]
      · simp [e])
    have e2 := pop_congr (setB .or b g p) b 32 (fun k hk => by
      have := hm (2 * k + 1) (by omega); rw [rb_odd, rb_odd] at this; rw [this]
      by_cases e : 2 * k + 1 = 2 * pl p + (g % 2).toNat
      · rw [← e, rb_odd] at h; simp [h]
      · simp [e])
    omega
  | false =>
    rcases mod2 g with hg | hg
    · have e1 := pop_flip (setA .or a g p) a (pl p) 32 hl (fun k hk hk' => by
        have := hm (2 * k) (by omega); rw [rb_even, rb_even] at this; rw [this, decide_eq_false (by omega), Bool.or_false])
        (by have := hm (2 * pl p) (by omega); rw [rb_even] at this; rw [this]; simp [hg])
        (by rw [hg] at h; rw [show 2 * pl p + (0 : Int).toNat = 2 * pl p by rfl, rb_even] at h; exact h)
      have e2 := pop_congr (setB .or b g p) b 32 (fun k hk => by
        have := hm (2 * k + 1) (by omega); rw [rb_odd, rb_odd] at this; rw [this, decide_eq_false (by omega), Bool.or_false])
      omega
    · have e1 := pop_flip (setB .or b g p) b (pl p) 32 hl (fun k hk hk' => by
        have := hm (2 * k + 1) (by omega); rw [rb_odd, rb_odd] at this; rw [this, decide_eq_false (by omega), Bool.or_false])
        (by have := hm (2 * pl p + 1) (by omega); rw [rb_odd] at this; rw [this]; simp [hg])
        (by rw [hg] at h; rw [show 2 * pl p + (1 : Int).toNat = 2 * pl p + 1 by rfl, rb_odd] at h; exact h)
      have e2 := pop_congr (setA .or a g p) a 32 (fun k hk => by
        have := hm (2 * k) (by omega); rw [rb_even, rb_even] at this; rw [this, decide_eq_false (by omega), Bool.or_false])
      omega

theorem rd_take (xs : List S39) (i : Nat) (h : i < xs.length) : xs.take (i + 1) = xs.take i ++ [rd_T39 xs (i : Int)] := by
  rw [List.take_add_one, List.getElem?_eq_getElem h]
  simp [rd_T39, List.getD_eq_getElem?_getD, List.getElem?_eq_getElem h]
theorem rd_drop (xs : List S39) (i : Nat) (h : i < xs.length) : xs.drop i = rd_T39 xs (i : Int) :: xs.drop (i + 1) := by
  rw [List.drop_eq_getElem_cons h]
  simp [rd_T39, List.getD_eq_getElem?_getD, List.getElem?_eq_getElem h]

theorem order_l1 (xs : List S39) (hn : xs.length ≤ 9223372036854775807) (a b : Int) (ha : W32 a) (hb : W32 b) (hp : pop a 32 + pop b 32 ≤ xs.length) (hbit : ∀ q, q < 64 → rb a b q = anyAt xs q) (m : Nat) :
    ∀ (K : Nat) (i : Nat), i + m = xs.length → crierlaw08_LadderOrder.l1 (m + 1 + K) xs true (i : Int) a b a b = some true := by
  induction m with
  | zero =>
    intro K i hi
    rw [show 0 + 1 + K = K + 1 by omega]
    unfold crierlaw08_LadderOrder.l1
    rw [if_neg (by omega), if_pos rfl, if_pos (by simp), len_is a b ha hb, Option.bind_some]
    simp; omega
  | succ m ih =>
    intro K i hi
    rw [show m + 1 + 1 + K = (m + 1 + K) + 1 by omega]
    have hrec := ih K (i + 1) (by omega)
    have hh : has a b (rd_T39 xs (i : Int)).f1 (rd_T39 xs (i : Int)).f2 = true := by
      rw [has_bits, hbit _ (by have := pl_lt (rd_T39 xs (i : Int)).f2; omega), anyAt, List.any_eq_true]
      refine ⟨rd_T39 xs (i : Int), ?_, by simp [place]⟩
      have hm : rd_T39 xs (i : Int) ∈ xs.drop i := by rw [rd_drop xs i (by omega)]; exact List.mem_cons_self ..
      exact List.mem_of_mem_drop hm
    unfold crierlaw08_LadderOrder.l1 ladder_Ladder_Has.f
    rw [if_pos (by omega), if_pos (by omega), Option.bind_some, hh, if_pos rfl, w64 _ (by omega)]
    exact_mod_cast hrec

theorem order_l0 (xs : List S39) (hn : xs.length ≤ 9223372036854775807) (m : Nat) :
    ∀ (K : Nat) (i : Nat) (a b c d : Int), i + m = xs.length → W32 a → W32 b → W32 c → W32 d → pop a 32 + pop b 32 ≤ i →
    (∀ q, q < 64 → rb a b q = anyAt (xs.take i) q) → (∀ q, q < 64 → rb c d q = anyAt (xs.drop m) q) →
    crierlaw08_LadderOrder.l0 (m + 1 + (xs.length + 1 + K)) xs true (i : Int) a b c d = some true := by
  induction m with
  | zero =>
    intro K i a b c d hi ha hb hc hd hp h1 h2
    rw [show 0 + 1 + (xs.length + 1 + K) = (xs.length + 1 + K) + 1 by omega]
    unfold crierlaw08_LadderOrder.l0
    rw [if_neg (by omega)]
    rw [show i = xs.length by omega, List.take_length] at h1
    rw [List.drop_zero] at h2
    obtain ⟨rfl, rfl⟩ := rb_ext c d a b hc hd ha hb (fun q hq => by rw [h1 q hq, h2 q hq])
    exact order_l1 xs hn c d ha hb (by omega) h1 xs.length K 0 (by omega)
  | succ m ih =>
    intro K i a b c d hi ha hb hc hd hp h1 h2
    rw [show m + 1 + 1 + (xs.length + 1 + K) = (m + 1 + (xs.length + 1 + K)) + 1 by omega]
    have e1 : wrap64 (wrap64 ((xs.length : Int) - 1) - (i : Int)) = (m : Int) := by rw [w64 ((xs.length : Int) - 1) (by omega), w64 _ (by omega)]; omega
    obtain ⟨wa, wb⟩ := set_w32 .or a b (rd_T39 xs (i : Int)).f1 (rd_T39 xs (i : Int)).f2 ha hb
    obtain ⟨wc, wd⟩ := set_w32 .or c d (rd_T39 xs (m : Int)).f1 (rd_T39 xs (m : Int)).f2 hc hd
    have hpp := push_pop a b (rd_T39 xs (i : Int)).f1 (rd_T39 xs (i : Int)).f2
    have hrec := ih K (i + 1) _ _ _ _ (by omega) wa wb wc wd (by omega)
      (fun q hq => by rw [push_bits _ _ _ _ q hq, h1 q hq, rd_take xs i (by omega)]; simp only [anyAt, place, List.any_append, List.any_cons, List.any_nil, Bool.or_false]; rfl)
      (fun q hq => by rw [push_bits _ _ _ _ q hq, h2 q hq, rd_drop xs m (by omega)]; simp only [anyAt, place, List.any_cons]; exact Bool.or_comm _ _)
    unfold crierlaw08_LadderOrder.l0 ladder_Ladder_Push.f
    rw [if_pos (by omega), if_pos (by omega), Option.bind_some, e1, if_pos (by omega), if_pos (by omega), Option.bind_some, w64 _ (by omega)]
    exact_mod_cast hrec

theorem LadderOrder (xs : List S39) (hn : xs.length ≤ 9223372036854775807) : ∃ k, crierlaw08_LadderOrder.f k xs = some true := by
  refine ⟨xs.length + 1 + (xs.length + 1 + 10), ?_⟩
  unfold crierlaw08_LadderOrder.f
  rw [awake_true _ (by omega), Option.bind_some, if_pos rfl]
  have hz : ∀ q, q < 64 → rb 0 0 q = false := by intro q hq; unfold rb; split <;> exact tb_zero _
  exact order_l0 xs hn xs.length 10 0 0 0 0 0 (by omega) (by decide) (by decide) (by decide) (by decide) (by rw [pop_zero]; omega)
    (fun q hq => by rw [hz q hq]; rfl) (fun q hq => by rw [hz q hq, List.drop_length]; rfl)
end Go.Proofs.Ytafmacngboeanaa.Pure
