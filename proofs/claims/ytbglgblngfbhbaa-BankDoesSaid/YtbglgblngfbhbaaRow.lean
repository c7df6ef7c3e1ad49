/-
  For the rows of laws: the leaves of an argument's value out of its reading (integers, bools, strings, slices, in structs and arrays), and a reading handed back behind a call that leaves alone what lay. Own work of this repository.
-/
import Derived.WalkKit
import Derived.ProofKit
import Derived.OpenShut
import Derived.ShutString
import Derived.ChangeOld
import Derived.Below
import Derived.SizedLaws
import Derived.Carry
namespace Go.Proofs.Ytbglgblngfbhbaa
open Go.ChangeShapes Go.WideShapes Go.ChangeAt Go.RowKit

inductive Sh where
  | int (k : IntKind)
  | bool
  | str
  | slice (t : TypeId)

/-- the leaves of a type: where each stands among its cells, and of what make it is -/
def leaves (P : Program) : Nat → TypeId → List (Nat × Sh)
  | 0, _ => []
  | d + 1, t =>
    match P.underlying t with
    | some (.int k) => [(0, .int k)]
    | some .bool => [(0, .bool)]
    | some .string => [(0, .str)]
    | some (.slice _) => [(0, .slice t)]
    | some (.struct fs) => fs.toList.flatMap fun f => (leaves P d f.type).map fun x => (f.offset + x.1, x.2)
    | some (.array n e) => (List.range n).flatMap fun i => (leaves P d e).map fun x => (i * P.cellsOf e + x.1, x.2)
    | _ => []

section
variable {H : Type} {enc : TypeId × Value → H} {P : Program} {w : World} {base : Nat} {spare : Nat → Bool} {held : Bool}

def LeafOk (enc : TypeId × Value → H) (P : Program) (w : World) (base : Nat) (spare : Nat → Bool) (held : Bool) : Sh → Value → Prop
  | .int k, v => ∃ n, v = .int k n ∧ (Lit.int k n).wf = true
  | .bool, v => ∃ b, v = .bool b
  | .str, v => ∃ s : ByteArray, v = .string s ∧ s.size ≤ maxLen
  | .slice t, v => ∃ m x, DataW.trod enc P w base spare held m t [v] = some x

theorem mapM_each {α β : Type} (f : α → Option β) : ∀ (l : List α) (ys : List β), l.mapM f = some ys → ∀ a ∈ l, ∃ y, f a = some y := by
  intro l
  induction l with
  | nil => intro ys _ a ha; cases ha
  | cons b l ih =>
    intro ys h a ha
    rw [List.mapM_cons] at h
    cases hb : f b with
    | none => simp [hb] at h
    | some y =>
      cases hl : l.mapM f with
      | none => simp [hb, hl] at h
      | some zs =>
        rcases List.mem_cons.mp ha with rfl | hm
        · exact ⟨y, hb⟩
        · exact ih zs hl a hm

theorem piece_at {cs : List Value} {o n i : Nat} {v : Value} (h : ((cs.drop o).take n)[i]? = some v) : cs[o + i]? = some v := by
  rw [List.getElem?_take] at h
  split at h
  · rwa [List.getElem?_drop] at h
  · cases h

theorem struct_each {fs : Array Field} {t : TypeId} {m : Nat} {cs : List Value} {x : DataW H × List MemPlace} (hu : P.underlying t = some (.struct fs)) (h : DataW.trod enc P w base spare held (m + 1) t cs = some x) :
    ∃ xs, (fs.toList.mapM fun f => DataW.trod enc P w base spare held m f.type ((cs.drop f.offset).take (P.cellsOf f.type))) = some xs := by
  unfold DataW.trod at h
  rw [hu] at h
  split at h <;> simp_all
  obtain ⟨_, a, ha, _⟩ := h
  exact ⟨a, ha⟩
theorem array_each {e : TypeId} {n : Nat} {t : TypeId} {m : Nat} {cs : List Value} {x : DataW H × List MemPlace} (hu : P.underlying t = some (.array n e)) (h : DataW.trod enc P w base spare held (m + 1) t cs = some x) :
    ∃ xs, ((List.range n).mapM fun i => DataW.trod enc P w base spare held m e ((cs.drop (i * P.cellsOf e)).take (P.cellsOf e))) = some xs := by
  unfold DataW.trod at h
  rw [hu] at h
  split at h <;> simp_all
  obtain ⟨_, a, ha, _⟩ := h
  exact ⟨a, ha⟩

theorem leaf_ok (d : Nat) : ∀ (fuel : Nat) (t : TypeId) (cs : List Value) (x : DataW H × List MemPlace), DataW.trod enc P w base spare held fuel t cs = some x →
    ∀ o s, (o, s) ∈ leaves P d t → ∃ v, cs[o]? = some v ∧ LeafOk enc P w base spare held s v := by
  induction d with
  | zero => intro fuel t cs x _ o s hm; cases hm
  | succ d ih =>
    intro fuel t cs x h o s hm
    cases fuel with
    | zero => simp [DataW.trod] at h
    | succ m =>
      rw [leaves] at hm
      split at hm
      · rename_i k hu
        simp at hm; obtain ⟨rfl, rfl⟩ := hm
        obtain ⟨n, hc, _, hw⟩ := DataW.trod_int hu h
        subst hc
        exact ⟨_, rfl, n, rfl, hw⟩
      · rename_i hu
        simp at hm; obtain ⟨rfl, rfl⟩ := hm
        unfold DataW.trod at h
        rw [hu] at h
        split at h <;> simp_all
        exact ⟨_, rfl⟩
      · rename_i hu
        simp at hm; obtain ⟨rfl, rfl⟩ := hm
        unfold DataW.trod at h
        rw [hu] at h
        split at h <;> simp_all
        exact ⟨_, rfl, h.1⟩
      · rename_i e hu
        simp at hm; obtain ⟨rfl, rfl⟩ := hm
        have h' := h
        unfold DataW.trod at h
        rw [hu] at h
        split at h <;> first | (simp_all; done) | exact ⟨_, rfl, _, _, h'⟩
      · rename_i fs hu
        have hs := struct_each hu h
        obtain ⟨xs, hxs⟩ := hs
        simp only [List.mem_flatMap, List.mem_map] at hm
        obtain ⟨f, hf, ⟨o', s'⟩, hmem, heq⟩ := hm
        simp only [Prod.mk.injEq] at heq
        obtain ⟨rfl, rfl⟩ := heq
        obtain ⟨y, hy⟩ := mapM_each _ _ _ hxs f hf
        obtain ⟨v, hv, hok⟩ := ih m f.type _ y hy o' s' hmem
        exact ⟨v, piece_at hv, hok⟩
      · rename_i n e hu
        have hs := array_each hu h
        obtain ⟨xs, hxs⟩ := hs
        simp only [List.mem_flatMap, List.mem_map] at hm
        obtain ⟨i, hi, ⟨o', s'⟩, hmem, heq⟩ := hm
        simp only [Prod.mk.injEq] at heq
        obtain ⟨rfl, rfl⟩ := heq
        obtain ⟨y, hy⟩ := mapM_each _ _ _ hxs i hi
        obtain ⟨v, hv, hok⟩ := ih m e _ y hy o' s' hmem
        exact ⟨v, piece_at hv, hok⟩
      · cases hm

/-- All arguments read behind a call that leaves alone what lay as they read before. -/
theorem trodAll_back (hl : laidOutB P = true) {W W' : World} (hb : Below W.heap.size W W') : ∀ (ts : List TypeId) (vs : List Value) (ds : List (DataW H)) (ps : List MemPlace),
    (∀ t ∈ ts, P.readableRec t = true ∧ t < P.types.size) → DataW.TrodAll enc P W 0 (fun _ => true) true ts vs ds ps →
    DataW.TrodAll enc P W' 0 (fun b => decide (b < W.heap.size)) true ts vs ds ps
  | [], [], [], _, _, h => h
  | t :: ts, v :: vs, d :: ds, ps, hr, h => by
    obtain ⟨p, q, h1, h2, rfl⟩ := h
    refine ⟨p, q, Below.trod hl (hr t (by simp)).1 (hr t (by simp)).2 h1 hb ?_, trodAll_back hl hb ts vs ds q (fun t ht => hr t (by simp [ht])) h2, rfl⟩
    obtain ⟨m, hm⟩ := h1
    exact DataW.trod_lt m _ _ _ hm
  | [], _ :: _, _, _, _, h => by cases h
  | [], [], _ :: _, _, _, h => by cases h
  | _ :: _, [], _, _, _, h => by cases h
  | _ :: _, _ :: _, [], _, _, h => by cases h

theorem okWide_arr {r : Reach} {b0 : Nat} {t e : TypeId} {n : Nat} {v : Value} (ht : P.underlying t = some (.array n e)) (h : Value.okWide P w r b0 t v) : ∃ cs, v = .agg cs ∧ cs.size = P.cellsOf t := by
  simp only [Value.okWide, ht] at h
  obtain ⟨cs, h1, h2, _⟩ := h
  exact ⟨cs, h1, h2⟩
end
end Go.Proofs.Ytbglgblngfbhbaa
