/- Contracts by hand of layer 20: the list of the places that a loop goes through. -/
import Derived.Test.YtbhideabefjadaaH4
import Derived.Maps.AppendAt
namespace Go.Proofs.Ytbhideabefjadaa
open Go.RowKit Go.Shelf Go.Proofs.YtbhideabefjadaaW.PrintWords Go.Proofs.YtbhideabefjadaaW.PrintMore Go.Proofs.Ytbhideabefjadaa.IAll
attribute [local go_sem] Oper.semAt_some
theorem info3 : (Try.prog.info? 3).map (fun i => (i.zero, i.size, i.bytes)) = some (some (.int .i64 0), 1, 8) := by kernel_rfl
set_option maxRecDepth 100000 in
set_option maxHeartbeats 1000000 in
theorem List_c (gf : Nat) (lb : Array Value) (ps : List Int) (S : Nat → Prop) (w : World) (hS : ∀ k, S k → k < w.heap.size) (hen : ∀ args w, (callFunc gf args).run Try.prog w = .ok (.enter gf args) w)
    (hit : Iter NoCells Try.prog gf lb (fun x : Int => #[.int .i64 x]) (KeepsS S (fun _ => False)) ps w) (hps : ps.length ≤ 5000) : Calls Try.prog 24 #[.func (.func gf) #[] lb] w fun e w' =>
    ∃ v, e = .returned v ∧ w'.ownsRow w.heap.size 3 1 v ps.length (ps.map (Value.int .i64)) ∧ Below w.heap.size w w' := by
  obtain ⟨i0, hi, hz0, hz1, hz2⟩ := info_parts info3
  refine calls_of_wide ?_
  refine callsIn_of_wp_marks Try.func24 rfl trivial ?_ rfl
  simp only [Try.ntmps24, List.size_toArray, List.length_cons, List.length_nil, Nat.reduceAdd, Nat.reduceSub, Array.replicate_succ, Array.replicate_zero, List.push_toArray, List.append_toArray, List.nil_append, List.cons_append]
  gi_wp2
  have hb0 : Below w.heap.size w (w.alloc (.cells #[.slice none 0 0] 55)) := (Below.refl _ w).alloc (Nat.le_refl _) _
  have hN0 : Boxed (w.alloc (.cells #[.slice none 0 0] 55)) w.heap.size 55 (.slice none 0 0) := Boxed.new w 55 _
  have hs0 : (w.alloc (.cells #[.slice none 0 0] 55)).heap.size = w.heap.size + 1 := by simp
  generalize w.alloc (.cells #[.slice none 0 0] 55) = W1 at *
  refine wp_range (Pv := NoCells) (fun _ h => h) rfl hen (hit.later hb0) (Below.refl _ _)
    (fun h k => h.trans k) (KeepsS.put (fun k h => by have := hS k h; omega)) (fun _ => rfl)
    (fun pre W => (∃ v, Boxed W w.heap.size 55 v ∧ W.ownsRow (w.heap.size + 1) 3 1 v pre.length (pre.map (Value.int .i64)) ∧ True) ∧ Below w.heap.size w W) (fun _ _ _ => False)
    ((OwnP.of_own (holdsRow_own (w.heap.size + 1) w.heap.size 55 3 1 _ _ _) _).and (OwnP.below NoCells (by omega) (by omega))) (fun _ => OwnP.const _ _ (fun _ => False))
    ⟨⟨_, hN0, World.ownsRow_nil _ _ _ _, trivial⟩, hb0⟩ ?round ?done ?stop
  case round =>
    rintro l pre x post W hxs hl hlt ⟨⟨v, hb, hrow, -⟩, hB⟩
    clear hit hN0 hb0 hen
    gi_wp2
    refine ⟨KeepsFrom.refl _ _, KeepsS.refl _ _ _, ⟨⟨v, hb, hrow, trivial⟩, hB⟩, ?_⟩
    clear hb hrow hB
    rintro W2 hg ⟨⟨v, hb, hrow, -⟩, hB⟩
    have hle : pre.length + 1 ≤ 5000 := by rw [hxs] at hps; simp at hps; omega
    have hsz : w.heap.size + 1 ≤ W2.heap.size := by have := hg.size; omega
    have hd : decide ((5000 : Int) < (pre.length : Int) + 1) = false := decide_eq_false (by omega)
    clear hxs hl hlt hg hps
    have hc := hb.cell
    gi_wp2_with (gi_at_builtin; refine wpListIn_append_own _ rfl _ _ 55 rfl (w.heap.size + 1) 3 i0 (.int .i64 0) 1 8 Try.underlying55 hi hz0 hz1 hz2 rfl (by decide) _ _ _ rfl (hrow.alloc _) ⟨W2.heap.size, 0, none⟩ 1 1 [.int .i64 x] rfl rfl (cell_one_new _ _ _) (by simp [Value.oneCell']) (by unfold maxLen; omega) (by omega) (by simp; omega) ?_; intro v' w1 hown' hgrow _; obtain ⟨g', cap', rfl⟩ := ownsRow_succ hown'; obtain ⟨hv1, hv2, hr2, hk2, hb2, hs2⟩ := box_append hb (by decide) hrow hown' hgrow; have hc1 := hv1.cell; have hf1 := hv1.frozen; have hc2 := hv2.cell)
    exact ⟨hk2.from _, hs2 _ _ (fun i e => by have := hS i e; exact ⟨by omega, by omega, by omega⟩) (fun h => h) (fun h => h), ⟨_, hv2, by simpa using hr2, trivial⟩, hB.trans (hb2 _ (by omega) (by omega) (by have := hB.size; omega))⟩
  case done =>
    rintro D W hD ⟨⟨v, hb, hrow, -⟩, hB⟩ hK
    have hc := hb.cell
    gi_wp2
    refine leave_mark hK (v := v) (by simp [results, Try.results24, go_sem]) ⟨v, rfl, ownsRow_lower (ownsRow_putObj hrow _ hK rfl) (by omega), below_putD hB (by omega) _⟩
  case stop =>
    rintro D c pre x post W _ _ h _
    exact h.elim
end Go.Proofs.Ytbhideabefjadaa
