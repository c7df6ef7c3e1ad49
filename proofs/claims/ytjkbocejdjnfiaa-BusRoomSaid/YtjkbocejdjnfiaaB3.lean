/- A slice's copy; what the sort leaves. -/
import Derived.Test.YtjkbocejdjnfiaaB2
namespace Go.Proofs.Ytjkbocejdjnfiaa.Bs
open Go.RowKit Go.Shelf Go.Lib Go.Sort Go.Proofs.Ytjkbocejdjnfiaa.IAll Go.Proofs.YtjkbocejdjnfiaaW.PrintWords Go.Proofs.YtjkbocejdjnfiaaW.PrintLast Go.Proofs.YtjkbocejdjnfiaaW.PrintMore
def Stop (p : Prop) : Prop := p
theorem stop_in {p : Prop} (h : Stop p) : p := h
theorem stop_out {p : Prop} (h : p) : Stop p := h
theorem addr_at (g n : Nat) : (⟨g, 0, none⟩ : Addr).add n = ⟨g, n, none⟩ := by
  unfold Addr.add
  split
  · simp
  · subst_vars; simp_all
theorem flat_at (d : Array Sp) (j : Nat) (h : j < d.size * 4) : (flatK EL 4 d)[j]! = (EL d[j / 4]!)[j % 4]! := get_flatK EL 4 d j h
/-- what is read is held -/
theorem kd_holds {w : World} {ob : Nat} {d : List Sp} (h : Kd.C k33 w (some ⟨ob, 0, none⟩) d.length d) (hr : isRow w ob) : HoldsK EL 4 w ob 0 d.toArray := by
  intro j hj
  rw [size_flatK, List.size_toArray] at hj
  have hk : j / 4 < d.length := by omega
  obtain ⟨ad, e, hq⟩ := h.2.2 (by omega)
  obtain rfl := Option.some.inj e
  obtain ⟨c, hc, hK, hcell⟩ := hq (j / 4) d[j / 4] (List.getElem?_eq_getElem hk)
  have hc4 := k33_open hK
  have hcell' : ∀ i u, c[i]? = some u → w.cell? ((⟨ob, 0, none⟩ : Addr).add (j / 4 * 4 + i)) = some u := hcell
  refine ⟨?_, frozen_row hr⟩
  rw [flat_at _ _ (by simpa using hj)]
  have e1 : d.toArray[j / 4]! = d[j / 4] := by simp [getElem!_pos, hk]
  rw [e1]
  have hi : j % 4 < 4 := Nat.mod_lt _ (by decide)
  have e2 : c[j % 4]? = some ((EL d[j / 4])[j % 4]!) := by
    rw [hc4]
    generalize j % 4 = i at hi ⊢
    generalize d[j / 4] = x
    rcases (show i = 0 ∨ i = 1 ∨ i = 2 ∨ i = 3 by omega) with rfl | rfl | rfl | rfl <;> rfl
  have := hcell' _ _ e2
  rw [addr_at, show j / 4 * 4 + j % 4 = j by omega] at this
  rw [Nat.zero_add]
  exact this
/-- what is held is read -/
theorem holds_kd {w : World} {ob : Nat} {d : Array Sp} (h : HoldsK EL 4 w ob 0 d) (hn : d.size ≤ 9223372036854775807) : Kd.C k33 w (some ⟨ob, 0, none⟩) d.size d.toList :=
  ⟨by simp, hn, fun _ => ⟨⟨ob, 0, none⟩, rfl, fun j p hq => ⟨EL p, rfl, k33_mk w p, fun i u hu => by
    have hj : j < d.size := by simpa using (List.getElem?_eq_some_iff.1 hq).1
    have hi : i < 4 := by have := (List.getElem?_eq_some_iff.1 hu).1; simpa [EL] using this
    show w.cell? ((⟨ob, 0, none⟩ : Addr).add (j * 4 + i)) = _
    have := (h (j * 4 + i) (by rw [size_flatK]; omega)).1
    rw [Nat.zero_add, flat_at _ _ (by omega), show (j * 4 + i) / 4 = j by omega, show (j * 4 + i) % 4 = i by omega] at this
    rw [addr_at, this]
    have e1 : d[j]! = p := by
      rw [getElem!_pos d j hj]
      have := (List.getElem?_eq_some_iff.1 hq).2
      simpa using this
    rw [e1]
    congr 1
    have hl : i < (EL p).length := (List.getElem?_eq_some_iff.1 hu).1
    show (EL p)[i]! = u
    rw [getElem!_pos (EL p) i hl]
    exact (List.getElem?_eq_some_iff.1 hu).2⟩⟩⟩
theorem sort_aside {w : World} {blk m : Nat} {dk : Array Sp} {os : Array Obj} : AsideP (fun k => k = blk) w (sortWorldK EL 4 w blk 0 m dk os) := by
  refine ⟨rfl, rfl, rfl, size_sortWorldK_c EL 4 w blk 0 m dk os, fun k hk hne => ?_⟩
  show ((w.heap.modify blk _) ++ os)[k]? = w.heap[k]?
  rw [Array.getElem?_append_left (by simpa using hk), Array.getElem?_modify]
  simp [show ¬ blk = k from fun e => hne e.symm]
theorem eq_nil_slice {ad : Addr} {n c : Nat} (W : World) : (binOp .eql 22 (Value.slice (some ad) n c) (Value.slice none 0 0)).run Try.prog W = .ok (.bool false) W := by
  kernel_rfl
theorem eq_nil_nil {n c : Nat} (W : World) : (binOp .eql 22 (Value.slice none n c) (Value.slice none 0 0)).run Try.prog W = .ok (.bool true) W := by
  kernel_rfl
theorem infoL : (Try.prog.info? 33).map (fun i => (i.zero, i.size, i.bytes)) = some (some (.agg (ES z33)), k33.sz, 32) := by kernel_rfl
theorem own_parts {W : World} {base n : Nat} {v : Value} {cs : List Value} (h : W.ownsRow base 33 4 v n cs) : ∃ A c, v = .slice A n c ∧ n ≤ c ∧ (0 < n → ∃ ob, A = some ⟨ob, 0, none⟩ ∧ base ≤ ob ∧ isRow W ob) := by
  rcases h.2 with ⟨rfl, h0⟩ | ⟨g, cap, cur, rfl, hg, hh, hcap, hmax, hcs, htk⟩
  · exact ⟨none, 0, by rw [h0], by omega, fun hn => by omega⟩
  · have hrow : Row W g cur := Row.of (t := 33) hh
    exact ⟨some ⟨g, 0, none⟩, cap, rfl, hcap, fun _ => ⟨g, rfl, hg, hrow.1⟩⟩
set_option maxRecDepth 100000 in
set_option maxHeartbeats 4000000 in
theorem clone_c (A : Option Addr) (n c : Nat) (d : List Sp) (w : World) (hr : Kd.C k33 w A n d) (hb : n ≤ 4398046511104) :
    Calls Try.prog 23 #[.slice A n c] w fun e w' => ∃ A' c', e = .returned (.slice A' n c') ∧ n ≤ c' ∧ Kd.C k33 w' A' n d ∧ (0 < n → ∃ ob, A' = some ⟨ob, 0, none⟩ ∧ w.heap.size ≤ ob ∧ isRow w' ob) ∧ Below w.heap.size w w' := by
  have hn : d.length = n := Kd.C_len hr
  subst hn
  cases A with
  | none =>
    have h0 : d.length = 0 := by
      rcases Nat.eq_zero_or_pos d.length with h | h
      · exact h
      · obtain ⟨ad, e, -⟩ := hr.2.2 h
        cases e
    obtain rfl : d = [] := List.length_eq_zero_iff.1 h0
    have heq : ∀ W : World, (binOp .eql 22 (Value.slice none 0 c) (Value.slice none 0 0)).run Try.prog W = .ok (.bool true) W := fun W => eq_nil_nil W
    go_enter Try.func23, Try.ntmps23
    go_wp2
    go_ret
    exact ⟨none, 0, rfl, Nat.le_refl _, hr, fun h => absurd h (Nat.lt_irrefl _), Below.refl _ _⟩
  | some ad =>
    go_enter Try.func23, Try.ntmps23
    have heq : ∀ W : World, (binOp .eql 22 (Value.slice (some ad) d.length c) (Value.slice none 0 0)).run Try.prog W = .ok (.bool false) W := fun W => eq_nil_slice W
    have hC : Kd.C k33 (w.alloc (.cells #[] 33)) (some ad) d.length d := Kd.C_alloc hr _
    have hR0 : k33.R 33 (w.alloc (.cells #[] 33)) w.heap.size (fun _ => True) (.slice (some ⟨w.heap.size, 0, none⟩) 0 0) ([] : List Sp) := ⟨fun _ _ => trivial, [], World.ownsRow_lit w #[] 0 (Nat.le_refl _) (by decide) rfl, Reps.none _ _⟩
    have HC := Lib.hid hC
    have HR0 := Lib.hid hR0
    have hBa : Below w.heap.size w (w.alloc (.cells #[] 33)) := (Below.refl _ w).alloc (Nat.le_refl _) _
    clear hC hR0
    go_wp2_with (at_builtin; refine Kd.R_append_rows k33 (Rr := k33.K (w.alloc (.cells #[] 33))) (w0 := w) w.heap.size rfl _ _ 22 33 (.agg (ES z33)) 32 rfl Try.underlying22 infoL rfl (by decide) (by decide) _ ([] : List Sp) d (some ad) d.length c (fun _ => True) (fun _ => False) rfl rfl HR0.out HC.out (fun p cs hp => by rw [k33_open hp]; exact k33_mkM _ _ _ _) (fun _ h => h.elim) (fun _ _ => trivial) hBa (by simp) (by simp; omega) ?_; intro x_ w1 hR_ hb1 _ _; refine stop_in ?_)
    refine stop_out ?_
    rw [List.nil_append] at hR_
    obtain ⟨A1, c1, he, hc1, hC1⟩ := Kd.R_reads hR_
    obtain ⟨-, inner, hown, hreps⟩ := hR_
    obtain ⟨A2, c2, he2, hc2, hO⟩ := own_parts hown
    obtain ⟨rfl, rfl⟩ : A1 = A2 ∧ c1 = c2 := by rw [he] at he2; injection he2 with a1 a2 a3; exact ⟨a1, a3⟩
    subst he
    clear hreps hown hBa
    go_wp2
    go_ret
    exact ⟨A1, c1, rfl, hc1, hC1, hO, hb1⟩
end Go.Proofs.Ytjkbocejdjnfiaa.Bs
