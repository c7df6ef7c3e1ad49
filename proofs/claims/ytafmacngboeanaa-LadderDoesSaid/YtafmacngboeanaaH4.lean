/- Contracts by hand of layer 8: what loops go through, whole and of one group. -/
import Derived.Test.YtafmacngboeanaaH3
import Derived.WalkSmall
import Derived.Laws.EntriesVeiled
namespace Go.Proofs.Ytafmacngboeanaa
open Go.RowKit Go.Shelf
attribute [local go_sem] Oper.semAt_some
theorem info3 : (Try.prog.info? 3).map (fun i => (i.zero, i.size, i.bytes)) = some (some (.int .i64 0), 1, 8) := by kernel_rfl
theorem allUpto_length (a b : Int) (n : Nat) : (allUpto a b n).length ≤ n := by
  induction n with
  | zero => simp [allUpto]
  | succ n ih =>
    have : (cell a b n).length ≤ 1 := by unfold cell; split <;> simp
    rw [allUpto, List.length_append]; omega
theorem allL_length (a b : Int) : (allL a b).length ≤ 64 := allUpto_length a b 64
/-- priorities and groups, in turn -/
def flat (l : List (Int × Int)) : List Int := l.flatMap fun x => [x.1, x.2]
theorem flat_snoc (l : List (Int × Int)) (x : Int × Int) : flat (l ++ [x]) = flat l ++ [x.1, x.2] := by simp [flat]
theorem flat_length (l : List (Int × Int)) : (flat l).length = 2 * l.length := by
  induction l with
  | nil => rfl
  | cons x l ih => simp [flat] at ih ⊢; omega
set_option maxRecDepth 100000 in
set_option maxHeartbeats 1000000 in
theorem lawAll_c (a b : Int) (w : World) : Calls Try.prog 24 #[.agg #[.int .u32 a, .int .u32 b]] w fun e w' => ∃ v, e = .returned v ∧ w'.ownsRow w.heap.size 3 1 v (flat (allL a b)).length ((flat (allL a b)).map (Value.int .i64)) ∧ Below w.heap.size w w' := by
  obtain ⟨i0, hi, hz0, hz1, hz2⟩ := info_parts info3
  refine calls_of_wide ?_
  refine callsIn_of_wp_marks Try.func24 rfl trivial ?_ rfl
  simp only [Try.ntmps24, List.size_toArray, List.length_cons, List.length_nil, Nat.reduceAdd, Nat.reduceSub, Array.replicate_succ, Array.replicate_zero, List.push_toArray, List.append_toArray, List.nil_append, List.cons_append]
  gi_wp2_with (gi_at_call 25; refine (in_of_calls (All_c _ _ _)).mono ?_; rintro e w' ⟨rfl, rfl⟩)
  have bN : Boxed (((w.alloc (.cells #[.int .u32 a, .int .u32 b] 26)).alloc (.cells #[.slice none 0 0] 51)).alloc (.cells #[.int .u32 a, .int .u32 b] 26)) (w.heap.size + 1) 51 (.slice none 0 0) := by
    have := (Boxed.new (w.alloc (.cells #[.int .u32 a, .int .u32 b] 26)) 51 (.slice none 0 0)).alloc (.cells #[.int .u32 a, .int .u32 b] 26); rwa [World.size_alloc] at this
  have bM : BoxN (((w.alloc (.cells #[.int .u32 a, .int .u32 b] 26)).alloc (.cells #[.slice none 0 0] 51)).alloc (.cells #[.int .u32 a, .int .u32 b] 26)) (w.heap.size + 2) 26 #[.int .u32 a, .int .u32 b] := by
    have := BoxN.new ((w.alloc (.cells #[.int .u32 a, .int .u32 b] 26)).alloc (.cells #[.slice none 0 0] 51)) 26 #[.int .u32 a, .int .u32 b]; simpa using this
  have hB0 : Below w.heap.size w (((w.alloc (.cells #[.int .u32 a, .int .u32 b] 26)).alloc (.cells #[.slice none 0 0] 51)).alloc (.cells #[.int .u32 a, .int .u32 b] 26)) :=
    (((Below.refl _ w).alloc (Nat.le_refl _) _).alloc (by simp) _).alloc (by simp; omega) _
  refine wp_range (Pv := NoCells) (fun _ h => h) rfl (enters_of Try.func32 (by kernel_rfl) rfl) (all_iter NoCells (fun k => k = w.heap.size + 2) (fun _ => False) a b (w.heap.size + 2) _ rfl bM) (Below.refl _ _)
    (fun h k => h.trans k) (KeepsS.put (by simp)) (fun _ => rfl)
    (fun pre W => (∃ v, Boxed W (w.heap.size + 1) 51 v ∧ W.ownsRow (w.heap.size + 3) 3 1 v (flat pre).length ((flat pre).map (Value.int .i64)) ∧ True) ∧ Below w.heap.size w W) (fun _ _ _ => False)
    ((OwnP.of_own (holdsRow_own (w.heap.size + 3) (w.heap.size + 1) 51 3 1 _ _ _) _).and (OwnP.below NoCells (Nat.le_refl _) (by simp; omega))) (fun _ => OwnP.const _ _ (fun _ => False))
    ⟨⟨_, bN, World.ownsRow_nil _ _ _ _, trivial⟩, hB0⟩ ?round ?done ?stop
  case round =>
    rintro l pre x post W hxs hl hlt ⟨⟨v, hb, hrow, -⟩, hB⟩
    clear bN bM hB0
    gi_wp2
    refine ⟨KeepsFrom.refl _ _, KeepsS.refl _ _ _, ⟨⟨v, hb, hrow, trivial⟩, hB⟩, ?_⟩
    clear hb hrow hB
    rintro W2 hg ⟨⟨v, hb, hrow, -⟩, hB⟩
    have hle : (flat pre).length + 2 ≤ 128 := by
      have h := allL_length a b
      rw [hxs] at h; simp at h; rw [flat_length]; omega
    have hsz : w.heap.size + 3 ≤ W2.heap.size := by have := hg.size; have := hl; simp at this; omega
    clear hxs hl hlt hg
    have hc := hb.cell
    gi_wp2_with (gi_at_builtin; refine wpListIn_append_own _ rfl _ _ 51 rfl (w.heap.size + 3) 3 i0 (.int .i64 0) 1 8 Try.underlying51 hi hz0 hz1 hz2 rfl (by decide) _ _ _ rfl (hrow.alloc _) ⟨W2.heap.size, 0, none⟩ 2 2 [.int .i64 x.1, .int .i64 x.2] rfl rfl (cell_two_new _ _ _ _) (by simp [Value.oneCell']) (by unfold maxLen; omega) (by omega) (by simp; omega) ?_; intro v' w1 hown' hgrow _; obtain ⟨g', cap', rfl⟩ := ownsRow_succ hown'; obtain ⟨hv1, hv2, hr2, hk2, hb2, hs2⟩ := box_append hb (by decide) hrow hown' hgrow; have hc1 := hv1.cell; have hf1 := hv1.frozen; have hc2 := hv2.cell)
    exact ⟨hk2.from _, hs2 _ _ (fun i e => by omega) (fun h => h) (fun h => h), ⟨_, hv2, by rw [flat_snoc]; simpa using hr2, trivial⟩, hB.trans (hb2 _ (by omega) (by omega) (by omega))⟩
  case done =>
    rintro D W hD ⟨⟨v, hb, hrow, -⟩, hB⟩ hK
    have hc := hb.cell
    simp at hD
    gi_wp2
    refine leave_mark hK (v := v) (by simp [results, Try.results24, go_sem]) ⟨v, rfl, ownsRow_lower (ownsRow_putObj hrow _ hK rfl) (by omega), below_putD hB (by omega) _⟩
  case stop =>
    rintro D c pre x post W _ _ h _
    exact h.elim
end Go.Proofs.Ytafmacngboeanaa
