/- What the printed laws of the ladder share: the examples, and what runs in a group. -/
import Derived.Test.YtafmacngboeanaaP0
import Derived.Test.YtafmacngboeanaaIAllx4
namespace Go.Proofs.Ytafmacngboeanaa.Pure
open Go.RowKit Go.Proofs.Ytafmacngboeanaa.IAll Go.Proofs.YtafmacngboeanaaW.PrintWords Go.Proofs.YtafmacngboeanaaW.PrintLast

theorem wf_i64 {a : Int} (h : (Lit.int .i64 a).wf = true) : -9223372036854775808 ≤ a ∧ a ≤ 9223372036854775807 := by
  simpa [Lit.wf, IntKind.min, IntKind.max, IntKind.signed, IntKind.bits] using h
theorem wf_u32 {a : Int} (h : (Lit.int .u32 a).wf = true) : W32 a := by
  simpa [Lit.wf, IntKind.min, IntKind.max, IntKind.signed, IntKind.bits, W32] using h
theorem wf_u8 {a : Int} (h : (Lit.int .u8 a).wf = true) : 0 ≤ a ∧ a ≤ 255 := by
  simpa [Lit.wf, IntKind.min, IntKind.max, IntKind.signed, IntKind.bits] using h
theorem w64 (n : Int) (h : -9223372036854775808 ≤ n ∧ n ≤ 9223372036854775807) : wrap64 n = n := IntWalk.wrap64_in n h
theorem awake10 : crierlaw08_awake.f 10 = some true := by decide +kernel
theorem awake_true (k : Nat) (h : 10 ≤ k) : crierlaw08_awake.f k = some true := by
  have := more_rounds (g := fun k => crierlaw08_awake.f k) crierlaw08_awake.mono 10 (k - 10) _ awake10
  rwa [show 10 + (k - 10) = k by omega] at this

theorem len_is (a b : Int) (ha : W32 a) (hb : W32 b) : ladder_Ladder_Len.f a b = some (((pop a 32 + pop b 32 : Nat)) : Int) := by
  have h1 := pop_le a 32
  have h2 := pop_le b 32
  unfold ladder_Ladder_Len.f bits_OnesCount32.f
  rw [if_pos ⟨ha.1, by have := ha.2; omega⟩, if_pos ⟨hb.1, by have := hb.2; omega⟩, Option.bind_some, Option.bind_some, w64 _ (by omega)]
  congr 1

theorem allUpto_pop (a b : Int) (n : Nat) : (allUpto a b (2 * n)).length = pop a n + pop b n := by
  induction n with
  | zero => rfl
  | succ n ih =>
    rw [step1, step0, List.length_append, List.length_append, ih, pop, pop]
    split <;> split <;> simp <;> omega
theorem allL_pop (a b : Int) : (allL a b).length = pop a 32 + pop b 32 := allUpto_pop a b 32

/-- the priorities of one word -/
def colL (a : Int) : Nat → List Int
  | 0 => []
  | n + 1 => colL a n ++ if tb a n then [8 * (n : Int)] else []
theorem only0 (a b : Int) (n : Nat) : onlyOf 0 (allUpto a b (2 * n)) = colL a n := by
  induction n with
  | zero => rfl
  | succ n ih =>
    rw [step1, step0, colL, ← ih]
    simp only [onlyOf, List.filterMap_append]
    split <;> split <;> simp
theorem only1 (a b : Int) (n : Nat) : onlyOf 1 (allUpto a b (2 * n)) = colL b n := by
  induction n with
  | zero => rfl
  | succ n ih =>
    rw [step1, step0, colL, ← ih]
    simp only [onlyOf, List.filterMap_append]
    split <;> split <;> simp
theorem onlyNone (a b g : Int) (h0 : g ≠ 0) (h1 : g ≠ 1) : onlyOf g (allL a b) = [] := by
  unfold onlyOf
  rw [List.filterMap_eq_nil_iff]
  intro x hx
  obtain ⟨k, g', -, hg, rfl, -⟩ := mem_allL a b x hx
  rw [if_neg]; simp only; omega
theorem colL_length (a : Int) (n : Nat) : (colL a n).length = pop a n := by
  induction n with
  | zero => rfl
  | succ n ih => rw [colL, List.length_append, ih, pop]; split <;> simp
theorem colL_mem (a : Int) (n : Nat) (x : Int) (h : x ∈ colL a n) : ∃ k : Nat, k < n ∧ tb a k = true ∧ x = 8 * (k : Int) := by
  induction n with
  | zero => simp [colL] at h
  | succ n ih =>
    rw [colL, List.mem_append] at h
    rcases h with h | h
    · obtain ⟨k, h1, h2, h3⟩ := ih h; exact ⟨k, by omega, h2, h3⟩
    · split at h
      · next ht => exact ⟨n, by omega, ht, by simpa using h⟩
      · simp at h
theorem colL_sorted (a : Int) (n : Nat) : (colL a n).Pairwise (· < ·) := by
  induction n with
  | zero => exact List.Pairwise.nil
  | succ n ih =>
    rw [colL, List.pairwise_append]
    refine ⟨ih, by split <;> simp, fun x hx y hy => ?_⟩
    obtain ⟨k, h1, -, h3⟩ := colL_mem a n x hx
    split at hy
    · simp at hy; omega
    · simp at hy
theorem rd_mem (xs : List Int) (i : Int) (h0 : 0 ≤ i) (h1 : i < xs.length) : rd xs i ∈ xs := by
  unfold rd
  rw [List.getD_eq_getElem?_getD, List.getElem?_eq_getElem (by omega)]
  exact List.getElem_mem _
theorem rd_sorted (xs : List Int) (h : xs.Pairwise (· < ·)) (i j : Int) (h0 : 0 ≤ i) (h1 : i < j) (h2 : j < xs.length) : rd xs i < rd xs j := by
  unfold rd
  rw [List.getD_eq_getElem?_getD, List.getD_eq_getElem?_getD, List.getElem?_eq_getElem (by omega), List.getElem?_eq_getElem (by omega)]
  exact List.pairwise_iff_getElem.1 h _ _ _ _ (by omega)
end Go.Proofs.Ytafmacngboeanaa.Pure
