/- Contracts by hand of layer 20: how the iterators are made. -/
import Derived.Test.YtbhideabefjadaaH
namespace Go.Proofs.Ytbhideabefjadaa
open Go.RowKit Go.Shelf Go.Proofs.YtbhideabefjadaaW.PrintWords Go.Proofs.YtbhideabefjadaaW.PrintMore Go.Proofs.Ytbhideabefjadaa.IAll
attribute [local go_sem] Oper.semAt_some
theorem row_lt {w : World} {A : Option Addr} {xs : List S24} (hC : Kd.C k24 w A xs.length xs) (h : 0 < xs.length) : ∃ ad, A = some ad ∧ ad.block < w.heap.size := by
  obtain ⟨ad, rfl, e0, -⟩ := at_T24 hC 0 (by omega) (by omega)
  have := cell_lt e0
  rw [blk_add] at this
  exact ⟨ad, rfl, this⟩
/-- the row's own block -/
def RowB (A : Option Addr) (n k : Nat) : Prop := 0 < n ∧ ∃ ad, A = some ad ∧ k = ad.block
theorem RowB.lt {w : World} {A : Option Addr} {xs : List S24} (hC : Kd.C k24 w A xs.length xs) {k : Nat} (h : RowB A xs.length k) : k < w.heap.size := by
  obtain ⟨h0, ad, rfl, rfl⟩ := h
  obtain ⟨ad', e, hl⟩ := row_lt hC h0
  cases e; exact hl
theorem C_keeps {S : Nat → Prop} {T : TypeId → Prop} {w W : World} {A : Option Addr} {xs : List S24} (hC : Kd.C k24 w A xs.length xs) (hK : KeepsS S T w W) (hS : ∀ k, RowB A xs.length k → S k) (i : Nat) (hi : i < xs.length) :
    ∃ ad, A = some ad ∧ W.cell? (ad.add (i * 7)) = some (.int .i64 (rd_T24 xs i).f0) ∧ W.cell? ⟨(ad.add (i * 7)).block, (ad.add (i * 7)).off + 1, none⟩ = some (.int .i64 (rd_T24 xs i).f1) ∧
      W.cell? ⟨(ad.add (i * 7)).block, (ad.add (i * 7)).off + 2, none⟩ = some (.int .i64 (rd_T24 xs i).f2) ∧ W.cell? ⟨(ad.add (i * 7)).block, (ad.add (i * 7)).off + 3, none⟩ = some (.int .i64 (rd_T24 xs i).f3) ∧
      W.cell? ⟨(ad.add (i * 7)).block, (ad.add (i * 7)).off + 4, none⟩ = some (.bool (rd_T24 xs i).f4) ∧ W.cell? ⟨(ad.add (i * 7)).block, (ad.add (i * 7)).off + 5, none⟩ = some (.int .i64 (rd_T24 xs i).f5) ∧
      W.cell? ⟨(ad.add (i * 7)).block, (ad.add (i * 7)).off + 6, none⟩ = some (.bool (rd_T24 xs i).f6) := by
  obtain ⟨ad, rfl, e0, e1, e2, e3, e4, e5, e6⟩ := at_T24 hC (i : Int) (by omega) (by omega)
  have hSk : S (ad.add (i * 7)).block := by rw [blk_add]; exact hS _ ⟨by omega, ad, rfl, rfl⟩
  simp only [Int.toNat_natCast] at e0 e1 e2 e3 e4 e5 e6
  rw [← hK.cell (a := ad.add (i * 7)) hSk] at e0
  rw [← hK.cell (a := ⟨(ad.add (i * 7)).block, (ad.add (i * 7)).off + 1, none⟩) hSk] at e1
  rw [← hK.cell (a := ⟨(ad.add (i * 7)).block, (ad.add (i * 7)).off + 2, none⟩) hSk] at e2
  rw [← hK.cell (a := ⟨(ad.add (i * 7)).block, (ad.add (i * 7)).off + 3, none⟩) hSk] at e3
  rw [← hK.cell (a := ⟨(ad.add (i * 7)).block, (ad.add (i * 7)).off + 4, none⟩) hSk] at e4
  rw [← hK.cell (a := ⟨(ad.add (i * 7)).block, (ad.add (i * 7)).off + 5, none⟩) hSk] at e5
  rw [← hK.cell (a := ⟨(ad.add (i * 7)).block, (ad.add (i * 7)).off + 6, none⟩) hSk] at e6
  exact ⟨ad, rfl, e0, e1, e2, e3, e4, e5, e6⟩
/-- the two boxes of an iterator's variables -/
def two (A : Option Addr) (n c : Nat) (fv : Value) (w : World) : World := (w.alloc (.cells #[.slice A n c] 31)).alloc (.cells #[fv] 60)
def seqV (w : World) : Value := .func (.func 35) #[] #[.pointer (some ⟨w.heap.size, 0, none⟩), .pointer (some ⟨w.heap.size + 1, 0, none⟩)]
theorem where_c (A : Option Addr) (n c gi : Nat) (li : Array Value) (w : World) : Calls Try.prog 27 #[.slice A n c, .func (.func gi) #[] li] w fun e w' => e = .returned (seqV w) ∧ two A n c (.func (.func gi) #[] li) w = w' := by
  go_enter Try.func27, Try.ntmps27
  go_wp2
  go_ret
  exact ⟨rfl, rfl⟩
theorem Free_c (A : Option Addr) (n c : Nat) (w : World) : Calls Try.prog 13 #[.slice A n c] w fun e w' => e = .returned (seqV w) ∧ two A n c (.func (.func 28) #[] #[]) w = w' := by
  go_enter Try.func13, Try.ntmps13
  go_wp2_with (go_at_call 27; refine (where_c _ _ _ _ _ _).mono ?_; rintro e w' ⟨rfl, rfl⟩)
  go_ret
  exact ⟨rfl, rfl⟩
theorem Waits_c (A : Option Addr) (n c : Nat) (w : World) : Calls Try.prog 14 #[.slice A n c] w fun e w' => e = .returned (seqV w) ∧ two A n c (.func (.func 29) #[] #[]) w = w' := by
  go_enter Try.func14, Try.ntmps14
  go_wp2_with (go_at_call 27; refine (where_c _ _ _ _ _ _).mono ?_; rintro e w' ⟨rfl, rfl⟩)
  go_ret
  exact ⟨rfl, rfl⟩
theorem find_in (S : Nat → Prop) (T : TypeId → Prop) (W0 : World) (number : Int) (B : Nat) (hS : S B) (hb : Boxed W0 B 3 (.int .i64 number)) : InOk S T 34 #[.pointer (some ⟨B, 0, none⟩)] (fun x => x.f0 != 0 && x.f1 == number) W0 := by
  intro x W hK
  refine in_of_calls (show Calls Try.prog 34 #[.agg #[.int .i64 x.f0, .int .i64 x.f1, .int .i64 x.f2, .int .i64 x.f3, .bool x.f4, .int .i64 x.f5, .bool x.f6], .pointer (some ⟨B, 0, none⟩)] W _ from ?_)
  have hc : ∀ o, (W.alloc o).cell? ⟨B, 0, none⟩ = some (.int .i64 number) := fun o => ((hK.boxed hS hb).alloc o).cell
  cases h0 : (x.f0 != 0) with
  | true =>
    go_enter Try.func34, Try.ntmps34
    go_wp2
    go_ret
    exact ⟨by simp [h0], (Below.refl _ _).alloc (Nat.le_refl _) _⟩
  | false =>
    go_enter Try.func34, Try.ntmps34
    go_wp2
    go_ret
    exact ⟨by simp [h0], (Below.refl _ _).alloc (Nat.le_refl _) _⟩
/-- what an iterator that has just been made asks to be let alone -/
def SeqS (A : Option Addr) (n h : Nat) (Q : Nat → Prop) (k : Nat) : Prop := RowB A n k ∨ k = h ∨ k = h + 1 ∨ Q k
theorem seq_iter (p : S24 → Bool) (gi : Nat) (li : Array Value) (A : Option Addr) (c : Nat) (xs : List S24) (Q : Nat → Prop) (w : World) (hC : Kd.C k24 w A xs.length xs) (hxs : xs.length ≤ 9223372036854775807) (hQ : ∀ k, Q k → k < w.heap.size)
    (hin : InOk (SeqS A xs.length w.heap.size Q) (fun _ => False) gi li p (two A xs.length c (.func (.func gi) #[] li) w)) (hen : ∀ args w, (callFunc gi args).run Try.prog w = .ok (.enter gi args) w) :
    Iter NoCells Try.prog 35 #[.pointer (some ⟨w.heap.size, 0, none⟩), .pointer (some ⟨w.heap.size + 1, 0, none⟩)] (fun x : Int => #[.int .i64 x]) (KeepsS (SeqS A xs.length w.heap.size Q) (fun _ => False)) (places p xs) (two A xs.length c (.func (.func gi) #[] li) w) := by
  have hs : (two A xs.length c (.func (.func gi) #[] li) w).heap.size = w.heap.size + 2 := by simp [two]
  refine where_iter NoCells (SeqS A xs.length w.heap.size Q) (fun _ => False) p gi li A c xs w.heap.size (w.heap.size + 1) _ ?_ (.inr (.inl rfl)) (.inr (.inr (.inl rfl))) (fun h ad e => .inl ⟨h, ad, e, rfl⟩) hxs ?_ ?_ ?_ hin hen
  · rintro k (h | rfl | rfl | h)
    · have := h.lt hC; omega
    · omega
    · omega
    · have := hQ k h; omega
  · exact (Boxed.new w 31 _).alloc _
  · have := Boxed.new (w.alloc (.cells #[.slice A xs.length c] 31)) 60 (.func (.func gi) #[] li)
    rwa [World.size_alloc] at this
  · exact Kd.C_below hC (((Below.refl _ w).alloc (Nat.le_refl _) _).alloc (by simp) _)
theorem two_size (A : Option Addr) (n c : Nat) (fv : Value) (w : World) : (two A n c fv w).heap.size = w.heap.size + 2 := by simp [two]
theorem two_below (A : Option Addr) (n c : Nat) (fv : Value) (w : World) : Below w.heap.size w (two A n c fv w) := ((Below.refl _ w).alloc (Nat.le_refl _) _).alloc (by simp) _
theorem SeqS.lt {w w0 : World} {A : Option Addr} {xs : List S24} {h : Nat} {Q : Nat → Prop} (hC : Kd.C k24 w0 A xs.length xs) (h0 : w0.heap.size ≤ w.heap.size) (hh : h + 2 ≤ w.heap.size) (hQ : ∀ k, Q k → k < w.heap.size) {k : Nat} (hk : SeqS A xs.length h Q k) : k < w.heap.size := by
  rcases hk with hk | rfl | rfl | hk
  · have := hk.lt hC; omega
  · omega
  · omega
  · exact hQ k hk
end Go.Proofs.Ytbhideabefjadaa
