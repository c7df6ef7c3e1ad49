/- Texts of this claim, put together: Ra. -/
import Derived.Test.YtkbaghblchlcnaaD26
import Derived.Test.YtkbaghblchlcnaaD28
import Derived.SizedLaws
namespace Go.Proofs.Ytkbaghblchlcnaa.Lr
open Go.ChangeShapes Go.WideShapes Go.ChangeAt Go.RowKit Go.Proofs.YtkbaghblchlcnaaW.PrintWords Go.Proofs.Ytkbaghblchlcnaa.IAll
theorem wfu64 {a : Int} (h : (Lit.int .u64 a).wf = true) : 0 ≤ a ∧ a ≤ 18446744073709551615 := by
  simp [Lit.wf, IntKind.min, IntKind.max, IntKind.signed, IntKind.bits] at h
  omega
theorem wfu32 {a : Int} (h : (Lit.int .u32 a).wf = true) : 0 ≤ a ∧ a ≤ 4294967295 := by
  simp [Lit.wf, IntKind.min, IntKind.max, IntKind.signed, IntKind.bits] at h
  omega
theorem wfu8 {a : Int} (h : (Lit.int .u8 a).wf = true) : 0 ≤ a ∧ a ≤ 255 := by
  simp [Lit.wf, IntKind.min, IntKind.max, IntKind.signed, IntKind.bits] at h
  omega
section
variable {H : Type} {enc : TypeId × Value → H} {P : Program} {w : World} {base : Nat} {spare : Nat → Bool} {held : Bool}
theorem mem_all {e : TypeId} {d : DataW H} {n : Nat} (hn : n ∈ d.weights P e) : ∀ l : List (DataW H), d ∈ l → n ∈ DataW.weightsAll P e l
  | [], h => by cases h
  | x :: r, h => by
    rw [DataW.weightsAll, List.mem_append]
    rcases List.mem_cons.1 h with q | q
    · subst q; exact .inl hn
    · exact .inr (mem_all hn r q)
theorem open_rows_w {α : Type} {t e : TypeId} {sz fuel lim : Nat} {cs : List Value} {x : DataW H × List MemPlace} (R : α → List Value → Prop) (ok : α → Prop)
    (ht : P.underlying t = some (.slice e)) (hs : P.cellsOf e = sz)
    (hel : ∀ (m : Nat) (c : List Value) (y : DataW H × List MemPlace), DataW.trod enc P w base spare held m e c = some y → c.length = sz → (∀ n ∈ y.1.weights P e, n ≤ lim) → ∃ p : α, R p c ∧ ok p)
    (h : DataW.trod enc P w base spare held fuel t cs = some x) (hw : ∀ n ∈ x.1.weights P t, n ≤ lim) :
    ∃ (A : Option Addr) (len cap : Nat) (xs : List α), cs = [.slice A len cap] ∧ len ≤ cap ∧ cap ≤ maxLen ∧ xs.length = len ∧
      (0 < len → ∃ ad, A = some ad ∧ ∀ j p, xs[j]? = some p → ∃ c, c.length = sz ∧ R p c ∧ ∀ i u, c[i]? = some u → w.cell? (ad.add (j * sz + i)) = some u) ∧ (∀ p ∈ xs, ok p) ∧ len * P.bytesOf e ≤ lim := by
  rcases DataW.trod_slice ht h with ⟨h0, -⟩ | ⟨a, len, cap, elems, rest, n, _, rfl, rfl, hb, hl, hm, hlen, hel', -, -⟩
  · exact ⟨none, 0, 0, [], h0, Nat.le_refl _, Nat.zero_le _, rfl, by omega, by simp, by omega⟩
  · have hww : ∀ q ∈ (elems.length + rest.length) * P.bytesOf e :: (DataW.weightsAll P e (elems.map (·.1)) ++ DataW.weightsAll P e (rest.map (·.1))), q ≤ lim := fun q hq => hw q (by simpa [DataW.weights, ht] using hq)
    have hbig : (elems.length + rest.length) * P.bytesOf e ≤ lim := hww _ List.mem_cons_self
    have hb2 : len * P.bytesOf e ≤ lim := Nat.le_trans (Nat.mul_le_mul_right _ (by omega)) hbig
    obtain ⟨xs, hxl, hxq⟩ := list_of (fun j (p : α) => ok p ∧ ∃ c, c.length = sz ∧ R p c ∧ ∀ i u, c[i]? = some u → w.cell? (a.add (j * sz + i)) = some u) len (fun i hi => by
      have hh := hel' i hi
      rw [hs, List.getElem?_eq_getElem (by omega), Option.bind_eq_some_iff] at hh
      obtain ⟨c, hc, hy⟩ := hh
      obtain ⟨-, hcl, hcc⟩ := World.cells?_some hc
      obtain ⟨p, hp, hok⟩ := hel n c _ hy hcl (fun q hq => hww q (by
        refine List.mem_cons_of_mem _ (List.mem_append_left _ (mem_all hq _ ?_))
        exact List.mem_map_of_mem (List.getElem_mem _)))
      refine ⟨p, hok, c, hcl, hp, fun j u hu => ?_⟩
      have := hcc j (by rw [← hcl]; exact (List.getElem?_eq_some_iff.1 hu).1)
      rw [hu] at this
      rw [← this, add_add_])
    refine ⟨some a, len, cap, xs, rfl, hl, hm, hxl, fun _ => ⟨a, rfl, fun j p hp => (hxq j p hp).2⟩, fun p hp => ?_, hb2⟩
    obtain ⟨j, hj⟩ := List.getElem?_of_mem hp
    exact (hxq j p hj).1
end
section
variable {H : Type} {enc : TypeId × Value → H} {w : World} {base : Nat} {spare : Nat → Bool} {held : Bool}
set_option maxRecDepth 100000 in
theorem leavesL : leaves Try.prog 5 54 = [(0, .int .i64), (1, .int .i64), (2, .int .i64), (3, .int .i64), (4, .bool), (5, .int .i64), (6, .bool)] := by rfl
theorem cellsL : Try.prog.cellsOf 54 = 7 := by kernel_rfl
theorem cellsA : Try.prog.cellsOf 80 = 5 := by kernel_rfl
theorem bytesL : Try.prog.bytesOf 54 = 56 := by kernel_rfl
theorem bytesA : Try.prog.bytesOf 80 = 56 := by kernel_rfl
theorem rowL (m : Nat) (c : List Value) (y : DataW H × List MemPlace) (h : DataW.trod enc Try.prog w base spare held m 54 c = some y) (hl : c.length = 7) : ∃ p : S54, k54.K w p c ∧ True := by
  have hk := leaf_ok 5 m 54 _ _ h
  rw [leavesL] at hk
  obtain ⟨v0, h0, x0, rfl, w0⟩ := hk 0 (.int .i64) (by simp)
  obtain ⟨v1, h1, x1, rfl, w1⟩ := hk 1 (.int .i64) (by simp)
  obtain ⟨v2, h2, x2, rfl, w2⟩ := hk 2 (.int .i64) (by simp)
  obtain ⟨v3, h3, x3, rfl, w3⟩ := hk 3 (.int .i64) (by simp)
  obtain ⟨v4, h4, x4, rfl⟩ := hk 4 (.bool) (by simp)
  obtain ⟨v5, h5, x5, rfl, w5⟩ := hk 5 (.int .i64) (by simp)
  obtain ⟨v6, h6, x6, rfl⟩ := hk 6 (.bool) (by simp)
  refine ⟨⟨x0, x1, x2, x3, x4, x5, x6⟩, ?_, trivial⟩
  match c, hl with
  | [y0, y1, y2, y3, y4, y5, y6], _ =>
    simp at h0 h1 h2 h3 h4 h5 h6
    subst h0
    subst h1
    subst h2
    subst h3
    subst h4
    subst h5
    subst h6
    exact k54_mk w ⟨x0, x1, x2, x3, x4, x5, x6⟩
set_option maxRecDepth 100000 in
theorem rowA (m : Nat) (c : List Value) (y : DataW H × List MemPlace) (h : DataW.trod enc Try.prog w base spare held m 80 c = some y) (hl : c.length = 5) (hw : ∀ n ∈ y.1.weights Try.prog 80, n ≤ reachBytes) :
    ∃ p : VA, kVA.K w p c ∧ (p.f1.length * 56 ≤ 140737488351232 ∧ 0 ≤ p.f4 ∧ p.f4 ≤ 18446744073709551615) := by
  obtain ⟨xs, n, rfl, rfl, -, hxl, hf⟩ := DataW.trod_struct Try.underlying80 h
  have f0 := hf 0 _ rfl
  have f1 := hf 1 _ rfl
  have f2 := hf 2 _ rfl
  have f3 := hf 3 _ rfl
  have f4 := hf 4 _ rfl
  match c, hl with
  | [c0, c1, c2, c3, c4], _ =>
    match xs, hxl with
    | [x0, x1, x2, x3, x4], _ =>
      simp only [List.getElem?_cons_zero, List.getElem?_cons_succ] at f0 f1 f2 f3 f4
      obtain ⟨a0, e0, -, -⟩ := DataW.trod_int Try.underlying3 f0
      obtain ⟨a2, e2, -, -⟩ := DataW.trod_int Try.underlying66 f2
      obtain ⟨a3, e3, -⟩ := DataW.trod_bool Try.underlying4 f3
      obtain ⟨a4, e4, -, w4⟩ := DataW.trod_int Try.underlying67 f4
      obtain ⟨A, len, cap, ls, e1, g1, g2, g3, g4, -, g6⟩ := open_rows_w (lim := reachBytes) (fun p c => k54.K w p c) (fun _ => True) Try.underlying22 cellsL (fun m c y h1 h2 _ => rowL m c y h1 h2) f1 (fun q hq => hw q (by
        simp only [DataW.weights, Try.underlying80, List.map_cons, List.map_nil]
        exact DataW.weights_mem_each (j := 1) (t := 22) (d := x1.1) rfl rfl q hq))
      rw [bytesL] at g6
      obtain rfl := List.cons.inj e0 |>.1
      obtain rfl := List.cons.inj e1 |>.1
      obtain rfl := List.cons.inj e2 |>.1
      obtain rfl := List.cons.inj e3 |>.1
      obtain rfl := List.cons.inj e4 |>.1
      subst g3
      have hu : 0 ≤ a4 ∧ a4 ≤ 18446744073709551615 := by
        have := wfu64 w4
        omega
      exact ⟨⟨a0, ls, a2, a3, a4⟩, ⟨[_], [_, _, _, _], rfl, rfl, ⟨[_], [_, _, _], rfl, ⟨A, cap, rfl, g1, ⟨rfl, Nat.le_trans g1 (Nat.le_trans g2 (by unfold maxLen; omega)), g4⟩⟩, ⟨[_], [_, _], rfl, rfl, ⟨[_], [_], rfl, rfl, rfl⟩⟩⟩⟩, g6, hu⟩
theorem open_acts {fuel : Nat} {cs : List Value} {x : DataW H × List MemPlace} (h : DataW.trod enc Try.prog w base spare held fuel 44 cs = some x) (hw : ∀ n ∈ x.1.weights Try.prog 44, n ≤ reachBytes) :
    ∃ (A : Option Addr) (cap : Nat) (xs : List VA), cs = [.slice A xs.length cap] ∧ ScOk w A xs := by
  obtain ⟨A, len, cap, xs, e, g1, g2, g3, g4, g5, g6⟩ := open_rows_w (lim := reachBytes) (fun p c => kVA.K w p c) (fun p : VA => p.f1.length * 56 ≤ 140737488351232 ∧ 0 ≤ p.f4 ∧ p.f4 ≤ 18446744073709551615) Try.underlying44 cellsA rowA h hw
  subst g3
  rw [bytesA] at g6
  have g7 : xs.length * 56 ≤ 140737488351232 := g6
  exact ⟨A, cap, xs, e, ⟨⟨rfl, Nat.le_trans g1 (Nat.le_trans g2 (by unfold maxLen; omega)), g4⟩, fun p hp => (g5 p hp).1, fun p hp => (g5 p hp).2.1, fun p hp => (g5 p hp).2.2, by omega⟩⟩
end
end Go.Proofs.Ytkbaghblchlcnaa.Lr
