/- Contracts by hand of layer 12: the list of those that are called, and how many they are. -/
import Derived.Test.YtfenchaiflfobaaH
namespace Go.Proofs.Ytfenchaiflfobaa
open Go.RowKit Go.Shelf
attribute [local go_sem] Oper.semAt_some
theorem info3 : (Try.prog.info? 3).map (fun i => (i.zero, i.size, i.bytes)) = some (some (.int .i64 0), 1, 8) := by kernel_rfl

set_option maxRecDepth 100000 in
set_option maxHeartbeats 1000000 in
theorem to_c (id : Int) (all : Bool) (t : Int) (odd : Bool) (from_ cores : Int) (w : World) : Calls Try.prog 15 #[.agg #[.int .i64 id, .bool all, .int .i64 t, .bool odd], .int .i64 from_, .int .i64 cores] w fun e w' =>
    ∃ v, e = .returned v ∧ w'.ownsRow w.heap.size 3 1 v (toL all odd t from_ cores).length ((toL all odd t from_ cores).map (Value.int .i64)) ∧ Below w.heap.size w w' := by
  obtain ⟨i0, hi, hz0, hz1, hz2⟩ := info_parts info3
  refine calls_of_wide ?_
  refine callsIn_of_wp_marks Try.func15 rfl trivial ?_ rfl
  simp only [Try.ntmps15, List.size_toArray, List.length_cons, List.length_nil, Nat.reduceAdd, Nat.reduceSub, Array.replicate_succ, Array.replicate_zero, List.push_toArray, List.append_toArray, List.nil_append, List.cons_append]
  gi_wp2_with (gi_at_call 21; refine (in_of_calls (To_c _ _ _ _ _ _ _)).mono ?_; rintro e w' ⟨rfl, rfl⟩)
  generalize hW1 : (((((w.alloc (.cells #[.int .i64 id, .bool all, .int .i64 t, .bool odd] 24)).alloc (.cells #[.slice none 0 0] 29)).alloc (.cells #[.int .i64 id, .bool all, .int .i64 t, .bool odd] 24)).alloc (.cells #[.int .i64 from_] 3)).alloc (.cells #[.int .i64 cores] 3)) = W1
  have hs1 : W1.heap.size = w.heap.size + 5 := by rw [← hW1]; simp
  have bN : Boxed W1 (w.heap.size + 1) 29 (.slice none 0 0) := by
    rw [← hW1]; have := (((Boxed.new (w.alloc (.cells #[.int .i64 id, .bool all, .int .i64 t, .bool odd] 24)) 29 (.slice none 0 0)).alloc (.cells #[.int .i64 id, .bool all, .int .i64 t, .bool odd] 24)).alloc (.cells #[.int .i64 from_] 3)).alloc (.cells #[.int .i64 cores] 3); rwa [World.size_alloc] at this
  have bC : BoxN W1 (w.heap.size + 2) 24 #[.int .i64 id, .bool all, .int .i64 t, .bool odd] := by
    rw [← hW1]; have := ((BoxN.new ((w.alloc (.cells #[.int .i64 id, .bool all, .int .i64 t, .bool odd] 24)).alloc (.cells #[.slice none 0 0] 29)) 24 #[.int .i64 id, .bool all, .int .i64 t, .bool odd]).alloc (.cells #[.int .i64 from_] 3)).alloc (.cells #[.int .i64 cores] 3); simpa using this
  have bF : Boxed W1 (w.heap.size + 3) 3 (.int .i64 from_) := by
    rw [← hW1]; have := (Boxed.new (((w.alloc (.cells #[.int .i64 id, .bool all, .int .i64 t, .bool odd] 24)).alloc (.cells #[.slice none 0 0] 29)).alloc (.cells #[.int .i64 id, .bool all, .int .i64 t, .bool odd] 24)) 3 (.int .i64 from_)).alloc (.cells #[.int .i64 cores] 3); simpa using this
  have bK : Boxed W1 (w.heap.size + 4) 3 (.int .i64 cores) := by
    rw [← hW1]; have := Boxed.new ((((w.alloc (.cells #[.int .i64 id, .bool all, .int .i64 t, .bool odd] 24)).alloc (.cells #[.slice none 0 0] 29)).alloc (.cells #[.int .i64 id, .bool all, .int .i64 t, .bool odd] 24)).alloc (.cells #[.int .i64 from_] 3)) 3 (.int .i64 cores); simpa using this
  have hB0 : Below w.heap.size w W1 := by
    rw [← hW1]; exact ((((Below.refl _ w).alloc (Nat.le_refl _) _).alloc (by simp) _).alloc (by simp; omega) _ |>.alloc (by simp; omega) _) |>.alloc (by simp; omega) _
  have hSs : ∀ k, (k = w.heap.size + 2 ∨ k = w.heap.size + 3) → k < W1.heap.size := by omega
  refine wp_range (Pv := NoCells) (fun _ h => h) rfl (enters_of Try.func23 (by kernel_rfl) rfl) (to_iter NoCells (fun k => k = w.heap.size + 2 ∨ k = w.heap.size + 3) (fun _ => False) id all t odd from_ cores (w.heap.size + 4) (w.heap.size + 2) (w.heap.size + 3) W1 (.inl rfl) (.inr rfl) bK bC bF) (Below.refl _ _)
    (fun h k => h.trans k) (KeepsS.put hSs) (fun _ => rfl)
    (fun pre W => (∃ v, Boxed W (w.heap.size + 1) 29 v ∧ W.ownsRow (w.heap.size + 5) 3 1 v pre.length (pre.map (Value.int .i64)) ∧ True) ∧ Below w.heap.size w W) (fun _ _ _ => False)
    ((OwnP.of_own (holdsRow_own (w.heap.size + 5) (w.heap.size + 1) 29 3 1 _ _ _) _).and (OwnP.below NoCells (by omega) (by omega))) (fun _ => OwnP.const _ _ (fun _ => False))
    ⟨⟨_, bN, World.ownsRow_nil _ _ _ _, trivial⟩, hB0⟩ ?round ?done ?stop
  case round =>
    rintro l pre x post W hxs hl hlt ⟨⟨v, hb, hrow, -⟩, hB⟩
    clear bN bC bF bK hB0 hW1
    gi_wp2
    refine ⟨KeepsFrom.refl _ _, KeepsS.refl _ _ _, ⟨⟨v, hb, hrow, trivial⟩, hB⟩, ?_⟩
    clear hb hrow hB
    rintro W2 hg ⟨⟨v, hb, hrow, -⟩, hB⟩
    have hle : pre.length + 1 ≤ 8 := by
      have h := toL_length all odd t from_ cores
      rw [hxs] at h; simp at h; omega
    have hsz : w.heap.size + 5 ≤ W2.heap.size := by have := hg.size; omega
    have hd : decide ((100 : Int) < (pre.length : Int) + 1) = false := decide_eq_false (by omega)
    clear hxs hl hlt hg
    have hc := hb.cell
    gi_wp2_with (gi_at_builtin; refine wpListIn_append_own _ rfl _ _ 29 rfl (w.heap.size + 5) 3 i0 (.int .i64 0) 1 8 Try.underlying29 hi hz0 hz1 hz2 rfl (by decide) _ _ _ rfl (hrow.alloc _) ⟨W2.heap.size, 0, none⟩ 1 1 [.int .i64 x] rfl rfl (cell_one_new _ _ _) (by simp [Value.oneCell']) (by unfold maxLen; omega) (by omega) (by simp; omega) ?_; intro v' w1 hown' hgrow _; obtain ⟨g', cap', rfl⟩ := ownsRow_succ hown'; obtain ⟨hv1, hv2, hr2, hk2, hb2, hs2⟩ := box_append hb (by decide) hrow hown' hgrow; have hc1 := hv1.cell; have hf1 := hv1.frozen; have hc2 := hv2.cell)
    exact ⟨hk2.from _, hs2 _ _ (fun i e => by omega) (fun h => h) (fun h => h), ⟨_, hv2, by simpa using hr2, trivial⟩, hB.trans (hb2 _ (by omega) (by omega) (by omega))⟩
  case done =>
    rintro D W hD ⟨⟨v, hb, hrow, -⟩, hB⟩ hK
    have hc := hb.cell
    gi_wp2
    refine leave_mark hK (v := v) (by simp [results, Try.results15, go_sem]) ⟨v, rfl, ownsRow_lower (ownsRow_putObj hrow _ hK rfl) (by omega), below_putD hB (by omega) _⟩
  case stop =>
    rintro D c pre x post W _ _ h _
    exact h.elim

set_option maxRecDepth 100000 in
set_option maxHeartbeats 1000000 in
theorem Many_c (id : Int) (all : Bool) (t : Int) (odd : Bool) (from_ cores : Int) (w : World) : Calls Try.prog 16 #[.agg #[.int .i64 id, .bool all, .int .i64 t, .bool odd], .int .i64 from_, .int .i64 cores] w fun e w' =>
    e = .returned (.int .i64 (toL all odd t from_ cores).length) ∧ Below w.heap.size w w' := by
  refine calls_of_wide ?_
  refine callsIn_of_wp_marks Try.func16 rfl trivial ?_ rfl
  simp only [Try.ntmps16, List.size_toArray, List.length_cons, List.length_nil, Nat.reduceAdd, Nat.reduceSub, Array.replicate_succ, Array.replicate_zero, List.push_toArray, List.append_toArray, List.nil_append, List.cons_append]
  gi_wp2_with (gi_at_call 21; refine (in_of_calls (To_c _ _ _ _ _ _ _)).mono ?_; rintro e w' ⟨rfl, rfl⟩)
  generalize hW1 : (((((w.alloc (.cells #[.int .i64 id, .bool all, .int .i64 t, .bool odd] 24)).alloc (.cells #[.int .i64 0] 3)).alloc (.cells #[.int .i64 id, .bool all, .int .i64 t, .bool odd] 24)).alloc (.cells #[.int .i64 from_] 3)).alloc (.cells #[.int .i64 cores] 3)) = W1
  have hs1 : W1.heap.size = w.heap.size + 5 := by rw [← hW1]; simp
  have bN : Boxed W1 (w.heap.size + 1) 3 (.int .i64 0) := by
    rw [← hW1]; have := (((Boxed.new (w.alloc (.cells #[.int .i64 id, .bool all, .int .i64 t, .bool odd] 24)) 3 (.int .i64 0)).alloc (.cells #[.int .i64 id, .bool all, .int .i64 t, .bool odd] 24)).alloc (.cells #[.int .i64 from_] 3)).alloc (.cells #[.int .i64 cores] 3); rwa [World.size_alloc] at this
  have bC : BoxN W1 (w.heap.size + 2) 24 #[.int .i64 id, .bool all, .int .i64 t, .bool odd] := by
    rw [← hW1]; have := ((BoxN.new ((w.alloc (.cells #[.int .i64 id, .bool all, .int .i64 t, .bool odd] 24)).alloc (.cells #[.int .i64 0] 3)) 24 #[.int .i64 id, .bool all, .int .i64 t, .bool odd]).alloc (.cells #[.int .i64 from_] 3)).alloc (.cells #[.int .i64 cores] 3); simpa using this
  have bF : Boxed W1 (w.heap.size + 3) 3 (.int .i64 from_) := by
    rw [← hW1]; have := (Boxed.new (((w.alloc (.cells #[.int .i64 id, .bool all, .int .i64 t, .bool odd] 24)).alloc (.cells #[.int .i64 0] 3)).alloc (.cells #[.int .i64 id, .bool all, .int .i64 t, .bool odd] 24)) 3 (.int .i64 from_)).alloc (.cells #[.int .i64 cores] 3); simpa using this
  have bK : Boxed W1 (w.heap.size + 4) 3 (.int .i64 cores) := by
    rw [← hW1]; have := Boxed.new ((((w.alloc (.cells #[.int .i64 id, .bool all, .int .i64 t, .bool odd] 24)).alloc (.cells #[.int .i64 0] 3)).alloc (.cells #[.int .i64 id, .bool all, .int .i64 t, .bool odd] 24)).alloc (.cells #[.int .i64 from_] 3)) 3 (.int .i64 cores); simpa using this
  have hB0 : Below w.heap.size w W1 := by
    rw [← hW1]; exact ((((Below.refl _ w).alloc (Nat.le_refl _) _).alloc (by simp) _).alloc (by simp; omega) _ |>.alloc (by simp; omega) _) |>.alloc (by simp; omega) _
  have hSs : ∀ k, (k = w.heap.size + 2 ∨ k = w.heap.size + 3) → k < W1.heap.size := by omega
  refine wp_range (Pv := NoCells) (fun _ h => h) rfl (enters_of Try.func23 (by kernel_rfl) rfl) (to_iter NoCells (fun k => k = w.heap.size + 2 ∨ k = w.heap.size + 3) (fun _ => False) id all t odd from_ cores (w.heap.size + 4) (w.heap.size + 2) (w.heap.size + 3) W1 (.inl rfl) (.inr rfl) bK bC bF) (Below.refl _ _)
    (fun h k => h.trans k) (KeepsS.put hSs) (fun _ => rfl)
    (fun pre W => Boxed W (w.heap.size + 1) 3 (.int .i64 (pre.length : Int)) ∧ Below w.heap.size w W) (fun _ _ _ => False)
    ((OwnP.box NoCells (by omega) 3 (fun pre : List Int => .int .i64 (pre.length : Int))).and (OwnP.below NoCells (by omega) (by omega))) (fun _ => OwnP.const _ _ (fun _ => False))
    ⟨bN, hB0⟩ ?round ?done ?stop
  case round =>
    rintro l pre x post W hxs hl hlt ⟨hb, hB⟩
    clear bN bC bF bK hB0 hW1
    gi_wp2
    refine ⟨KeepsFrom.refl _ _, KeepsS.refl _ _ _, ⟨hb, hB⟩, ?_⟩
    clear hb hB
    rintro W2 hg ⟨hb, hB⟩
    have hle : pre.length + 1 ≤ 8 := by
      have h := toL_length all odd t from_ cores
      rw [hxs] at h; simp at h; omega
    have hsz : w.heap.size + 5 ≤ W2.heap.size := by have := hg.size; omega
    clear hxs hl hlt hg
    have hc := hb.cell
    have hf := hb.frozen
    gi_wp2
    refine ⟨(KeepsOthers.setCell _ _ _).from _, KeepsS.set (p := ⟨w.heap.size + 1, 0, none⟩) hb (fun h => h) (fun k hk => by simp only; omega) _, ?_, hB.setCell (p := ⟨w.heap.size + 1, 0, none⟩) (by simp) _⟩
    have := hb.set (.int .i64 ((pre.length : Int) + 1))
    rwa [show ((pre ++ [x]).length : Int) = (pre.length : Int) + 1 by simp]
  case done =>
    rintro D W hD ⟨hb, hB⟩ hK
    have hc := hb.cell
    gi_wp2
    refine leave_mark hK (v := .int .i64 ((toL all odd t from_ cores).length : Int)) (by simp [results, Try.results16, go_sem]) ⟨rfl, below_putD hB (by omega) _⟩
  case stop =>
    rintro D c pre x post W _ _ h _
    exact h.elim
end Go.Proofs.Ytfenchaiflfobaa
