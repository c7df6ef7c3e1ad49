/- Texts of this claim, put together: LrH, LrH2, LrH3, LrH4, LrHC, Byte, IAllx2, Rw, Nm, IAllx3. -/
import Derived.Test.YtkbaghblchlcnaaD01
import Derived.Test.YtkbaghblchlcnaaD02
import Derived.Test.YtkbaghblchlcnaaD03
import Derived.Test.YtkbaghblchlcnaaD10
import Derived.WalkSmall
import Derived.Laws.EntriesVeiled
import Derived.RegionIn
import Derived.Laws.Rows
import Derived.Laws.Tables
import Derived.Laws.ResultCell
import Derived.Deep.DeepCutAuto
import Derived.Deep.RegionHeld3
import Derived.Deep.RegionWith
namespace Go.Proofs.Ytkbaghblchlcnaa.Lr
open Go.RowKit Go.Shelf Go.Proofs.YtkbaghblchlcnaaW.PrintWords Go.Proofs.YtkbaghblchlcnaaW.PrintMore Go.Proofs.Ytkbaghblchlcnaa.IAll
attribute [local go_sem] Oper.semAt_some
/-- a list register's cells -/
def enc (x : S54) : Array Value := #[.int .i64 x.f0, .int .i64 x.f1, .int .i64 x.f2, .int .i64 x.f3, .bool x.f4, .int .i64 x.f5, .bool x.f6]
/-- the places below n of those that are let in -/
def pl (p : S54 → Bool) (xs : List S54) : Nat → List Int
  | 0 => []
  | n + 1 => pl p xs n ++ if p (rd_T54 xs n) then [(n : Int)] else []
def places (p : S54 → Bool) (xs : List S54) : List Int := pl p xs xs.length
theorem pl_mono (p : S54 → Bool) (xs : List S54) (n d : Nat) : ∃ post, pl p xs (n + d) = pl p xs n ++ post := by
  induction d with
  | zero => exact ⟨[], by simp⟩
  | succ d ih =>
    obtain ⟨post, h⟩ := ih
    exact ⟨post ++ _, by rw [show n + (d + 1) = (n + d) + 1 by omega, pl, h, List.append_assoc]⟩
theorem places_at (p : S54 → Bool) (xs : List S54) (n : Nat) (hn : n < xs.length) (h : p (rd_T54 xs n) = true) : ∃ post, places p xs = pl p xs n ++ (n : Int) :: post := by
  obtain ⟨post, hp⟩ := pl_mono p xs (n + 1) (xs.length - (n + 1))
  rw [show n + 1 + (xs.length - (n + 1)) = xs.length by omega] at hp
  exact ⟨post, by rw [places, hp, pl, if_pos h]; simp⟩
theorem pl_length (p : S54 → Bool) (xs : List S54) (n : Nat) : (pl p xs n).length ≤ n := by
  induction n with
  | zero => simp [pl]
  | succ n ih => rw [pl, List.length_append]; split <;> simp <;> omega
theorem pl_mem (p : S54 → Bool) (xs : List S54) (n : Nat) : ∀ x ∈ pl p xs n, 0 ≤ x ∧ x < n ∧ p (rd_T54 xs x) = true := by
  induction n with
  | zero => simp [pl]
  | succ n ih =>
    intro x hx
    rw [pl, List.mem_append] at hx
    rcases hx with hx | hx
    · have := ih x hx; exact ⟨this.1, by omega, this.2.2⟩
    · split at hx
      · rename_i h
        simp at hx; subst hx; exact ⟨by omega, by omega, h⟩
      · simp at hx
/-- a test of a list register, as a function value: what it answers -/
def InOk (S : Nat → Prop) (T : TypeId → Prop) (gi : Nat) (li : Array Value) (p : S54 → Bool) (W0 : World) : Prop :=
  ∀ (x : S54) (W : World), KeepsS S T W0 W → CallsIn Fence.wide 0 Try.prog gi (#[.agg (enc x)] ++ li) W fun e w' => e = .returned (.bool (p x)) ∧ Below W.heap.size W w'
theorem free_in (S : Nat → Prop) (T : TypeId → Prop) (W0 : World) : InOk S T 66 #[] (fun x => x.f0 == 0) W0 := by
  intro x W _
  refine in_of_calls (show Calls Try.prog 66 #[.agg #[.int .i64 x.f0, .int .i64 x.f1, .int .i64 x.f2, .int .i64 x.f3, .bool x.f4, .int .i64 x.f5, .bool x.f6]] W _ from ?_)
  go_enter Try.func66, Try.ntmps66
  go_wp2
  go_ret
  exact ⟨rfl, (Below.refl _ _).alloc (Nat.le_refl _) _⟩
theorem waits_in (S : Nat → Prop) (T : TypeId → Prop) (W0 : World) : InOk S T 75 #[] (fun x => x.f0 == 1) W0 := by
  intro x W _
  refine in_of_calls (show Calls Try.prog 75 #[.agg #[.int .i64 x.f0, .int .i64 x.f1, .int .i64 x.f2, .int .i64 x.f3, .bool x.f4, .int .i64 x.f5, .bool x.f6]] W _ from ?_)
  go_enter Try.func75, Try.ntmps75
  go_wp2
  go_ret
  exact ⟨rfl, (Below.refl _ _).alloc (Nat.le_refl _) _⟩
set_option maxRecDepth 100000 in
set_option maxHeartbeats 1000000 in
theorem where_iter (Pv : Obj → Prop) (S : Nat → Prop) (T : TypeId → Prop) (p : S54 → Bool) (gi : Nat) (li : Array Value) (A : Option Addr) (c : Nat) (xs : List S54) (Bl Bi : Nat) (W0 : World)
    (hS : ∀ k, S k → k < W0.heap.size) (hSl : S Bl) (hSi : S Bi) (hSA : 0 < xs.length → ∀ ad, A = some ad → S ad.block) (hxs : xs.length ≤ 9223372036854775807)
    (hl : Boxed W0 Bl 22 (.slice A xs.length c)) (hi : Boxed W0 Bi 88 (.func (.func gi) #[] li)) (hC : Kd.C k54 W0 A xs.length xs) (hin : InOk S T gi li p W0)
    (hen : ∀ args w, (callFunc gi args).run Try.prog w = .ok (.enter gi args) w) :
    Iter Pv Try.prog 72 #[.pointer (some ⟨Bl, 0, none⟩), .pointer (some ⟨Bi, 0, none⟩)] (fun x : Int => #[.int .i64 x]) (KeepsS S T) (places p xs) W0 := by
  intro l J Jx W hW hJ hJx hY h0
  have hK0 : KeepsS S T W0 W := KeepsS.new hW hS
  have hl1 : Boxed W Bl 22 (.slice A xs.length c) := hK0.boxed hSl hl
  have hcl := hl1.cell
  refine callsIn_of_wp Try.func72 rfl trivial ?_ rfl
  simp only [Try.ntmps72, List.size_toArray, List.length_cons, List.length_nil, Nat.reduceAdd, Nat.reduceSub, Array.replicate_succ, Array.replicate_zero, List.push_toArray, List.append_toArray, List.nil_append, List.cons_append]
  gi_wp2
  gi_loopw [8] (fun q wr => ∃ k : Nat, k ≤ xs.length ∧ q = .int .i64 k ∧ J (pl p xs k) wr ∧ KeepsS S T W0 wr) (fun q _ => xs.length - (intOf q).toNat)
  case atStart => exact ⟨0, by omega, rfl, h0, hK0⟩
  case round =>
    obtain ⟨k, hk, rfl, hj, hB⟩ := hrel
    by_cases hlt : k < xs.length
    · have hd : decide ((k : Int) < (xs.length : Int)) = true := decide_eq_true (by omega)
      have hd1 : decide (k < xs.length) = true := decide_eq_true (by omega)
      obtain ⟨ad, rfl, e0, e1, e2, e3, e4, e5, e6⟩ := at_T54 hC (k : Int) (by omega) (by omega)
      have hi2 : ∀ o, (wr.alloc o).cell? ⟨Bi, 0, none⟩ = some (.func (.func gi) #[] li) := fun o => ((hB.boxed hSi hi).alloc o).cell
      have hSk : S (ad.add (k * 7)).block := by
        have := hSA (by omega) ad rfl
        unfold Addr.add; split <;> exact this
      simp only [Int.toNat_natCast] at e0 e1 e2 e3 e4 e5 e6
      rw [← hB.cell (a := ad.add (k * 7)) hSk] at e0
      rw [← hB.cell (a := ⟨(ad.add (k * 7)).block, (ad.add (k * 7)).off + 1, none⟩) hSk] at e1
      rw [← hB.cell (a := ⟨(ad.add (k * 7)).block, (ad.add (k * 7)).off + 2, none⟩) hSk] at e2
      rw [← hB.cell (a := ⟨(ad.add (k * 7)).block, (ad.add (k * 7)).off + 3, none⟩) hSk] at e3
      rw [← hB.cell (a := ⟨(ad.add (k * 7)).block, (ad.add (k * 7)).off + 4, none⟩) hSk] at e4
      rw [← hB.cell (a := ⟨(ad.add (k * 7)).block, (ad.add (k * 7)).off + 5, none⟩) hSk] at e5
      rw [← hB.cell (a := ⟨(ad.add (k * 7)).block, (ad.add (k * 7)).off + 6, none⟩) hSk] at e6
      have hB1 : ∀ o, KeepsS S T W0 (wr.alloc o) := fun o => hB.trans (KeepsS.new ((Below.refl _ _).alloc (Nat.le_refl _) _) (fun k hk => Nat.lt_of_lt_of_le (hS k hk) hB.size))
      have hIn := hin (rd_T54 xs k) (wr.alloc (.cells (enc (rd_T54 xs k)) 54)) (hB1 _)
      have HIn := Lib.hid hIn
      clear hIn
      cases hp : p (rd_T54 xs k) with
      | true =>
        have hs : pl p xs (k + 1) = pl p xs k ++ [(k : Int)] := by rw [pl, if_pos hp]
        have HS := Lib.hid hs
        obtain ⟨post, hx⟩ := places_at p xs k hlt hp
        have HX := Lib.hid hx
        rw [hp] at HIn
        clear hs hx hp
        gi_wp2_with (refine HIn.out.mono ?_; rintro e W3 ⟨rfl, hb3⟩; have hb4 := Lib.hid (below_of_alloc hb3); clear hb3; obtain ⟨fn, tmps, assign, body, hy, hR⟩ := hY _ _ _ W3 HX.out (hJ.under hj hb4.out))
        refine hR.mono ?_
        rintro e W5 ⟨(⟨rfl, hJ3, hk3⟩ | ⟨rfl, hJx3⟩), -⟩
        · gi_wp2
          go_roundw
          case rel => exact ⟨k + 1, by omega, congrArg (Value.int .i64) (by omega), by rw [HS.out]; exact hJ3, (hB.trans (KeepsS.new hb4.out (fun k hk => Nat.lt_of_lt_of_le (hS k hk) hB.size))).trans hk3⟩
          case measure => simp [intOf]; omega
        · gi_wp2
          refine bodyPost_ret (results_none rfl _ _ _) rfl ?_
          exact ⟨⟨_, rfl⟩, .inr ⟨_, _, _, HX.out, hJx3⟩⟩
      | false =>
        have hs : pl p xs (k + 1) = pl p xs k := by rw [pl, if_neg (by rw [hp]; simp), List.append_nil]
        have HS := Lib.hid hs
        rw [hp] at HIn
        clear hs hp
        gi_wp2_with (refine HIn.out.mono ?_; rintro e W3 ⟨rfl, hb3⟩; have hb4 := Lib.hid (below_of_alloc hb3); clear hb3)
        go_roundw
        case rel => exact ⟨k + 1, by omega, congrArg (Value.int .i64) (by omega), by rw [HS.out]; exact hJ.under hj hb4.out, hB.trans (KeepsS.new hb4.out (fun k hk => Nat.lt_of_lt_of_le (hS k hk) hB.size))⟩
        case measure => simp [intOf]; omega
    · obtain rfl : k = xs.length := by omega
      have hd : decide ((xs.length : Int) < (xs.length : Int)) = false := decide_eq_false (by omega)
      gi_wp2
      go_end0
      exact ⟨⟨_, rfl⟩, .inl hj⟩
end Go.Proofs.Ytkbaghblchlcnaa.Lr
namespace Go.Proofs.Ytkbaghblchlcnaa.Lr
open Go.RowKit Go.Shelf Go.Proofs.YtkbaghblchlcnaaW.PrintWords Go.Proofs.YtkbaghblchlcnaaW.PrintMore Go.Proofs.Ytkbaghblchlcnaa.IAll
attribute [local go_sem] Oper.semAt_some
theorem row_lt {w : World} {A : Option Addr} {xs : List S54} (hC : Kd.C k54 w A xs.length xs) (h : 0 < xs.length) : ∃ ad, A = some ad ∧ ad.block < w.heap.size := by
  obtain ⟨ad, rfl, e0, -⟩ := at_T54 hC 0 (by omega) (by omega)
  have := cell_lt e0
  rw [blk_add] at this
  exact ⟨ad, rfl, this⟩
/-- the row's own block -/
def RowB (A : Option Addr) (n k : Nat) : Prop := 0 < n ∧ ∃ ad, A = some ad ∧ k = ad.block
theorem RowB.lt {w : World} {A : Option Addr} {xs : List S54} (hC : Kd.C k54 w A xs.length xs) {k : Nat} (h : RowB A xs.length k) : k < w.heap.size := by
  obtain ⟨h0, ad, rfl, rfl⟩ := h
  obtain ⟨ad', e, hl⟩ := row_lt hC h0
  cases e; exact hl
theorem C_keeps {S : Nat → Prop} {T : TypeId → Prop} {w W : World} {A : Option Addr} {xs : List S54} (hC : Kd.C k54 w A xs.length xs) (hK : KeepsS S T w W) (hS : ∀ k, RowB A xs.length k → S k) (i : Nat) (hi : i < xs.length) :
    ∃ ad, A = some ad ∧ W.cell? (ad.add (i * 7)) = some (.int .i64 (rd_T54 xs i).f0) ∧ W.cell? ⟨(ad.add (i * 7)).block, (ad.add (i * 7)).off + 1, none⟩ = some (.int .i64 (rd_T54 xs i).f1) ∧
      W.cell? ⟨(ad.add (i * 7)).block, (ad.add (i * 7)).off + 2, none⟩ = some (.int .i64 (rd_T54 xs i).f2) ∧ W.cell? ⟨(ad.add (i * 7)).block, (ad.add (i * 7)).off + 3, none⟩ = some (.int .i64 (rd_T54 xs i).f3) ∧
      W.cell? ⟨(ad.add (i * 7)).block, (ad.add (i * 7)).off + 4, none⟩ = some (.bool (rd_T54 xs i).f4) ∧ W.cell? ⟨(ad.add (i * 7)).block, (ad.add (i * 7)).off + 5, none⟩ = some (.int .i64 (rd_T54 xs i).f5) ∧
      W.cell? ⟨(ad.add (i * 7)).block, (ad.add (i * 7)).off + 6, none⟩ = some (.bool (rd_T54 xs i).f6) := by
  obtain ⟨ad, rfl, e0, e1, e2, e3, e4, e5, e6⟩ := at_T54 hC (i : Int) (by omega) (by omega)
  have hSk : S (ad.add (i * 7)).block := by rw [blk_add]; exact hS _ ⟨by omega, ad, rfl, rfl⟩
  simp only [Int.toNat_natCast] at e0 e1 e2 e3 e4 e5 e6
  rw [← hK.cell (a := ad.add (i * 7)) hSk] at e0
  rw [← hK.cell (a := ⟨(ad.add (i * 7)).block, (ad.add (i * 7)).off + 1, none⟩) hSk] at e1
  rw [← hK.cell (a := ⟨(ad.add (i * 7)).block, (ad.add (i * 7)).off + 2, none⟩) hSk] at e2
  rw [← hK.cell (a := ⟨(ad.add (i * 7)).block, (ad.add (i * 7)).off + 3, none⟩) hSk] at e3
  rw [← hK.cell (a := ⟨(ad.add (i * 7)).block, (ad.add (i * 7)).off + 4, none⟩) hSk] at e4
  rw [← hK.cell (a := ⟨(ad.add (i * 7)).block, (ad.add (i * 7)).off + 5, none⟩) hSk] at e5
  rw [← hK.cell (a := ⟨(ad.add (i * 7)).block, (ad.add (i * 7)).off + 6, none⟩) hSk] at e6
  exact ⟨ad, rfl, e0, e1, e2, e3, e4, e5, e6⟩
/-- the two boxes of an iterator's variables -/
def two (A : Option Addr) (n c : Nat) (fv : Value) (w : World) : World := (w.alloc (.cells #[.slice A n c] 22)).alloc (.cells #[fv] 88)
def seqV (w : World) : Value := .func (.func 72) #[] #[.pointer (some ⟨w.heap.size, 0, none⟩), .pointer (some ⟨w.heap.size + 1, 0, none⟩)]
theorem where_c (A : Option Addr) (n c gi : Nat) (li : Array Value) (w : World) : Calls Try.prog 45 #[.slice A n c, .func (.func gi) #[] li] w fun e w' => e = .returned (seqV w) ∧ two A n c (.func (.func gi) #[] li) w = w' := by
  go_enter Try.func45, Try.ntmps45
  go_wp2
  go_ret
  exact ⟨rfl, rfl⟩
theorem Free_c (A : Option Addr) (n c : Nat) (w : World) : Calls Try.prog 36 #[.slice A n c] w fun e w' => e = .returned (seqV w) ∧ two A n c (.func (.func 66) #[] #[]) w = w' := by
  go_enter Try.func36, Try.ntmps36
  go_wp2_with (go_at_call 45; refine (where_c _ _ _ _ _ _).mono ?_; rintro e w' ⟨rfl, rfl⟩)
  go_ret
  exact ⟨rfl, rfl⟩
theorem Waits_c (A : Option Addr) (n c : Nat) (w : World) : Calls Try.prog 52 #[.slice A n c] w fun e w' => e = .returned (seqV w) ∧ two A n c (.func (.func 75) #[] #[]) w = w' := by
  go_enter Try.func52, Try.ntmps52
  go_wp2_with (go_at_call 45; refine (where_c _ _ _ _ _ _).mono ?_; rintro e w' ⟨rfl, rfl⟩)
  go_ret
  exact ⟨rfl, rfl⟩
theorem Done_c (A : Option Addr) (n c : Nat) (w : World) : Calls Try.prog 51 #[.slice A n c] w fun e w' => e = .returned (seqV w) ∧ two A n c (.func (.func 74) #[] #[]) w = w' := by
  go_enter Try.func51, Try.ntmps51
  go_wp2_with (go_at_call 45; refine (where_c _ _ _ _ _ _).mono ?_; rintro e w' ⟨rfl, rfl⟩)
  go_ret
  exact ⟨rfl, rfl⟩
theorem done_in (S : Nat → Prop) (T : TypeId → Prop) (W0 : World) : InOk S T 74 #[] (fun x => x.f0 == 0 && (x.f6 && !x.f4)) W0 := by
  intro x W _
  refine in_of_calls (show Calls Try.prog 74 #[.agg #[.int .i64 x.f0, .int .i64 x.f1, .int .i64 x.f2, .int .i64 x.f3, .bool x.f4, .int .i64 x.f5, .bool x.f6]] W _ from ?_)
  cases h0 : (x.f0 == 0) with
  | true =>
    cases h6 : x.f6 with
    | true =>
      go_enter Try.func74, Try.ntmps74
      go_wp2
      go_ret
      exact ⟨by simp [h0, h6], (Below.refl _ _).alloc (Nat.le_refl _) _⟩
    | false =>
      go_enter Try.func74, Try.ntmps74
      go_wp2
      go_ret
      exact ⟨by simp [h0, h6], (Below.refl _ _).alloc (Nat.le_refl _) _⟩
  | false =>
    go_enter Try.func74, Try.ntmps74
    go_wp2
    go_ret
    exact ⟨by simp [h0], (Below.refl _ _).alloc (Nat.le_refl _) _⟩
theorem find_in (S : Nat → Prop) (T : TypeId → Prop) (W0 : World) (number : Int) (B : Nat) (hS : S B) (hb : Boxed W0 B 3 (.int .i64 number)) : InOk S T 46 #[.pointer (some ⟨B, 0, none⟩)] (fun x => x.f0 != 0 && x.f1 == number) W0 := by
  intro x W hK
  refine in_of_calls (show Calls Try.prog 46 #[.agg #[.int .i64 x.f0, .int .i64 x.f1, .int .i64 x.f2, .int .i64 x.f3, .bool x.f4, .int .i64 x.f5, .bool x.f6], .pointer (some ⟨B, 0, none⟩)] W _ from ?_)
  have hc : ∀ o, (W.alloc o).cell? ⟨B, 0, none⟩ = some (.int .i64 number) := fun o => ((hK.boxed hS hb).alloc o).cell
  cases h0 : (x.f0 != 0) with
  | true =>
    go_enter Try.func46, Try.ntmps46
    go_wp2
    go_ret
    exact ⟨by simp [h0], (Below.refl _ _).alloc (Nat.le_refl _) _⟩
  | false =>
    go_enter Try.func46, Try.ntmps46
    go_wp2
    go_ret
    exact ⟨by simp [h0], (Below.refl _ _).alloc (Nat.le_refl _) _⟩
/-- what an iterator that has just been made asks to be let alone -/
def SeqS (A : Option Addr) (n h : Nat) (Q : Nat → Prop) (k : Nat) : Prop := RowB A n k ∨ k = h ∨ k = h + 1 ∨ Q k
theorem seq_iter (p : S54 → Bool) (gi : Nat) (li : Array Value) (A : Option Addr) (c : Nat) (xs : List S54) (Q : Nat → Prop) (w : World) (hC : Kd.C k54 w A xs.length xs) (hxs : xs.length ≤ 9223372036854775807) (hQ : ∀ k, Q k → k < w.heap.size)
    (hin : InOk (SeqS A xs.length w.heap.size Q) (fun _ => False) gi li p (two A xs.length c (.func (.func gi) #[] li) w)) (hen : ∀ args w, (callFunc gi args).run Try.prog w = .ok (.enter gi args) w) :
    Iter NoCells Try.prog 72 #[.pointer (some ⟨w.heap.size, 0, none⟩), .pointer (some ⟨w.heap.size + 1, 0, none⟩)] (fun x : Int => #[.int .i64 x]) (KeepsS (SeqS A xs.length w.heap.size Q) (fun _ => False)) (places p xs) (two A xs.length c (.func (.func gi) #[] li) w) := by
  have hs : (two A xs.length c (.func (.func gi) #[] li) w).heap.size = w.heap.size + 2 := by simp [two]
  refine where_iter NoCells (SeqS A xs.length w.heap.size Q) (fun _ => False) p gi li A c xs w.heap.size (w.heap.size + 1) _ ?_ (.inr (.inl rfl)) (.inr (.inr (.inl rfl))) (fun h ad e => .inl ⟨h, ad, e, rfl⟩) hxs ?_ ?_ ?_ hin hen
  · rintro k (h | rfl | rfl | h)
    · have := h.lt hC; omega
    · omega
    · omega
    · have := hQ k h; omega
  · exact (Boxed.new w 22 _).alloc _
  · have := Boxed.new (w.alloc (.cells #[.slice A xs.length c] 22)) 88 (.func (.func gi) #[] li)
    rwa [World.size_alloc] at this
  · exact Kd.C_below hC (((Below.refl _ w).alloc (Nat.le_refl _) _).alloc (by simp) _)
theorem two_size (A : Option Addr) (n c : Nat) (fv : Value) (w : World) : (two A n c fv w).heap.size = w.heap.size + 2 := by simp [two]
theorem two_below (A : Option Addr) (n c : Nat) (fv : Value) (w : World) : Below w.heap.size w (two A n c fv w) := ((Below.refl _ w).alloc (Nat.le_refl _) _).alloc (by simp) _
theorem SeqS.lt {w w0 : World} {A : Option Addr} {xs : List S54} {h : Nat} {Q : Nat → Prop} (hC : Kd.C k54 w0 A xs.length xs) (h0 : w0.heap.size ≤ w.heap.size) (hh : h + 2 ≤ w.heap.size) (hQ : ∀ k, Q k → k < w.heap.size) {k : Nat} (hk : SeqS A xs.length h Q k) : k < w.heap.size := by
  rcases hk with hk | rfl | rfl | hk
  · have := hk.lt hC; omega
  · omega
  · omega
  · exact hQ k hk
end Go.Proofs.Ytkbaghblchlcnaa.Lr
namespace Go.Proofs.Ytkbaghblchlcnaa.Lr
open Go.RowKit Go.Shelf Go.Proofs.YtkbaghblchlcnaaW.PrintWords Go.Proofs.YtkbaghblchlcnaaW.PrintMore Go.Proofs.Ytkbaghblchlcnaa.IAll
attribute [local go_sem] Oper.semAt_some
def pFree (x : S54) : Bool := x.f0 == 0
def pWaits (x : S54) : Bool := x.f0 == 1
def pDone (x : S54) : Bool := x.f0 == 0 && (x.f6 && !x.f4)
theorem places_length (p : S54 → Bool) (xs : List S54) : (places p xs).length ≤ xs.length := pl_length p xs xs.length
set_option maxRecDepth 100000 in
set_option maxHeartbeats 1000000 in
theorem Used_c (A : Option Addr) (c : Nat) (xs : List S54) (w : World) (hC : Kd.C k54 w A xs.length xs) (hxs : xs.length ≤ 9223372036854775807) : Calls Try.prog 14 #[.slice A xs.length c] w fun e w' =>
    e = .returned (.int .i64 ((xs.length : Int) - (places pFree xs).length)) ∧ Below w.heap.size w w' := by
  refine calls_of_wide ?_
  refine callsIn_of_wp_marks Try.func14 rfl trivial ?_ rfl
  simp only [Try.ntmps14, List.size_toArray, List.length_cons, List.length_nil, Nat.reduceAdd, Nat.reduceSub, Array.replicate_succ, Array.replicate_zero, List.push_toArray, List.append_toArray, List.nil_append, List.cons_append]
  gi_wp2_with (gi_at_call 36; refine (in_of_calls (Free_c _ _ _ _)).mono ?_; rintro e w' ⟨rfl, rfl⟩)
  generalize hw0 : w.alloc (.cells #[.int .i64 (xs.length : Int)] 3) = w0
  have hs0 : w0.heap.size = w.heap.size + 1 := by rw [← hw0]; simp
  have hC0 : Kd.C k54 w0 A xs.length xs := by rw [← hw0]; exact Kd.C_below hC ((Below.refl _ w).alloc (Nat.le_refl _) _)
  have hb0 : Below w.heap.size w w0 := by rw [← hw0]; exact (Below.refl _ w).alloc (Nat.le_refl _) _
  have hN0 : Boxed w0 w.heap.size 3 (.int .i64 (xs.length : Int)) := by rw [← hw0]; exact Boxed.new w 3 _
  have hb1 := two_below A xs.length c (.func (.func 66) #[] #[]) w0
  have hs1 := two_size A xs.length c (.func (.func 66) #[] #[]) w0
  have hN1 : Boxed (two A xs.length c (.func (.func 66) #[] #[]) w0) w.heap.size 3 (.int .i64 (xs.length : Int)) := (hb1.block _ (by omega)).trans hN0
  have hit := seq_iter pFree 66 #[] A c xs (fun _ => False) w0 hC0 hxs (fun k h => h.elim) (free_in _ _ _) (enters_of Try.func66 (by kernel_rfl) rfl)
  have hSl : ∀ k, SeqS A xs.length w0.heap.size (fun _ => False) k → k < (two A xs.length c (.func (.func 66) #[] #[]) w0).heap.size := fun k hk => hk.lt hC0 (by omega) (by omega) (fun k h => h.elim)
  have hSn : ∀ k, SeqS A xs.length w0.heap.size (fun _ => False) k → k ≠ w.heap.size := by
    rintro k (h | rfl | rfl | h)
    · have := h.lt hC; omega
    · omega
    · omega
    · exact h.elim
  generalize two A xs.length c (.func (.func 66) #[] #[]) w0 = W1 at *
  have hB1 : Below w.heap.size w W1 := hb0.trans (hb1.mono (by omega))
  refine wp_range (Pv := NoCells) (fun _ h => h) rfl (enters_of Try.func72 (by kernel_rfl) rfl) hit (Below.refl _ _)
    (fun h k => h.trans k) (KeepsS.put hSl) (fun _ => rfl)
    (fun pre W => Boxed W w.heap.size 3 (.int .i64 ((xs.length : Int) - pre.length)) ∧ Below w.heap.size w W) (fun _ _ _ => False)
    ((OwnP.box NoCells (by omega) 3 (fun pre : List Int => .int .i64 ((xs.length : Int) - pre.length))).and (OwnP.below NoCells (by omega) (by omega))) (fun _ => OwnP.const _ _ (fun _ => False))
    ⟨by simpa using hN1, hB1⟩ ?round ?done ?stop
  case round =>
    rintro l pre x post W hps hl hlt ⟨hb, hB⟩
    clear hit hN0 hN1 hb0 hb1 hB1 hC0 hSl
    have hle : pre.length + 1 ≤ xs.length := by
      have h := places_length pFree xs
      rw [hps] at h; simp at h; omega
    clear hps hw0
    gi_wp2
    refine ⟨KeepsFrom.refl _ _, KeepsS.refl _ _ _, ⟨hb, hB⟩, ?_⟩
    clear hb hB
    rintro W2 hg ⟨hb, hB⟩
    have hc := hb.cell
    have hf := hb.frozen
    clear hg
    gi_wp2
    refine ⟨(KeepsOthers.setCell _ _ _).from _, KeepsS.set (p := ⟨w.heap.size, 0, none⟩) hb (fun h => h) hSn _, ?_, hB.setCell (p := ⟨w.heap.size, 0, none⟩) (by simp) _⟩
    have := hb.set (.int .i64 ((xs.length : Int) - (pre.length : Int) - 1))
    rwa [show ((xs.length : Int) - ((pre ++ [x]).length : Int)) = (xs.length : Int) - (pre.length : Int) - 1 by simp; omega]
  case done =>
    rintro D W hD ⟨hb, hB⟩ hK
    have hc := hb.cell
    gi_wp2
    refine leave_mark hK (v := .int .i64 ((xs.length : Int) - ((places pFree xs).length : Int))) (by simp [results, Try.results14, go_sem]) ⟨rfl, below_putD hB (by omega) _⟩
  case stop =>
    rintro D c pre x post W _ _ h _
    exact h.elim
theorem shl_is (x : Int) : shl .u64 1 x = IntKind.u64.wrap (2 ^ min x.toNat 64) := by unfold shl; rw [Int.one_mul]; rfl
/-- a number with a bit for each place -/
def bitsOf (l : List Int) : Int := l.foldl (fun v k => Go.bits .or .u64 v (shl .u64 1 k)) 0
theorem bitsOf_snoc (l : List Int) (k : Int) : bitsOf (l ++ [k]) = Go.bits .or .u64 (bitsOf l) (shl .u64 1 k) := by simp [bitsOf]
set_option maxRecDepth 100000 in
set_option maxHeartbeats 1000000 in
theorem Bits_c (gf : Nat) (lb : Array Value) (ps : List Int) (S : Nat → Prop) (w : World) (hS : ∀ k, S k → k < w.heap.size) (hen : ∀ args w, (callFunc gf args).run Try.prog w = .ok (.enter gf args) w)
    (hit : Iter NoCells Try.prog gf lb (fun x : Int => #[.int .i64 x]) (KeepsS S (fun _ => False)) ps w) (hps : ∀ x ∈ ps, 0 ≤ x) : Calls Try.prog 50 #[.func (.func gf) #[] lb] w fun e w' =>
    e = .returned (.int .u64 (bitsOf ps)) ∧ Below w.heap.size w w' := by
  refine calls_of_wide ?_
  refine callsIn_of_wp_marks Try.func50 rfl trivial ?_ rfl
  simp only [Try.ntmps50, List.size_toArray, List.length_cons, List.length_nil, Nat.reduceAdd, Nat.reduceSub, Array.replicate_succ, Array.replicate_zero, List.push_toArray, List.append_toArray, List.nil_append, List.cons_append]
  gi_wp2
  have hb0 : Below w.heap.size w (w.alloc (.cells #[.int .u64 0] 67)) := (Below.refl _ w).alloc (Nat.le_refl _) _
  have hN0 : Boxed (w.alloc (.cells #[.int .u64 0] 67)) w.heap.size 67 (.int .u64 0) := Boxed.new w 67 _
  have hs0 : (w.alloc (.cells #[.int .u64 0] 67)).heap.size = w.heap.size + 1 := by simp
  generalize w.alloc (.cells #[.int .u64 0] 67) = W1 at *
  refine wp_range (Pv := NoCells) (fun _ h => h) rfl hen (hit.later hb0) (Below.refl _ _)
    (fun h k => h.trans k) (KeepsS.put (fun k h => by have := hS k h; omega)) (fun _ => rfl)
    (fun pre W => Boxed W w.heap.size 67 (.int .u64 (bitsOf pre)) ∧ Below w.heap.size w W) (fun _ _ _ => False)
    ((OwnP.box NoCells (by omega) 67 (fun pre : List Int => .int .u64 (bitsOf pre))).and (OwnP.below NoCells (by omega) (by omega))) (fun _ => OwnP.const _ _ (fun _ => False))
    ⟨hN0, hb0⟩ ?round ?done ?stop
  case round =>
    rintro l pre x post W hx hl hlt ⟨hb, hB⟩
    clear hit hN0 hb0 hen
    have hx0 : 0 ≤ x := hps x (by rw [hx]; simp)
    clear hx hps
    gi_wp2
    refine ⟨KeepsFrom.refl _ _, KeepsS.refl _ _ _, ⟨hb, hB⟩, ?_⟩
    clear hb hB
    rintro W2 hg ⟨hb, hB⟩
    have hc := hb.cell
    have hf := hb.frozen
    clear hg
    have HSH := Lib.hid (shl_is x)
    gi_wp2
    gi_region
    all_goals
      rw [← HSH.out]
      refine ⟨KeepsFrom.drew_ ((KeepsOthers.setCell _ _ _).from _), KeepsS.drew_ (KeepsS.set (p := ⟨w.heap.size, 0, none⟩) hb (fun h => h) (fun k hk => by have := hS k hk; simp only; omega) _), ?_, below_drew_ (hB.setCell (p := ⟨w.heap.size, 0, none⟩) (by simp) _)⟩
      have := hb.set (.int .u64 (Go.bits .or .u64 (bitsOf pre) (shl .u64 1 x)))
      rw [bitsOf_snoc]; exact this
  case done =>
    rintro D W hD ⟨hb, hB⟩ hK
    have hc := hb.cell
    gi_wp2
    refine leave_mark hK (v := .int .u64 (bitsOf ps)) (by simp [results, Try.results50, go_sem]) ⟨rfl, below_putD hB (by omega) _⟩
  case stop =>
    rintro D c pre x post W _ _ h _
    exact h.elim
end Go.Proofs.Ytkbaghblchlcnaa.Lr
namespace Go.Proofs.Ytkbaghblchlcnaa.Lr
open Go.RowKit Go.Shelf Go.Proofs.YtkbaghblchlcnaaW.PrintWords Go.Proofs.YtkbaghblchlcnaaW.PrintMore Go.Proofs.Ytkbaghblchlcnaa.IAll
attribute [local go_sem] Oper.semAt_some
def pFind (number : Int) (x : S54) : Bool := x.f0 != 0 && x.f1 == number
def findOf (xs : List S54) (number : Int) : Int := (places (pFind number) xs).headD (-1)
set_option maxRecDepth 100000 in
set_option maxHeartbeats 1000000 in
theorem Find_c (A : Option Addr) (c : Nat) (xs : List S54) (number : Int) (w : World) (hC : Kd.C k54 w A xs.length xs) (hxs : xs.length ≤ 9223372036854775807) : Calls Try.prog 22 #[.slice A xs.length c, .int .i64 number] w fun e w' =>
    e = .returned (.int .i64 (findOf xs number)) ∧ Below w.heap.size w w' := by
  refine calls_of_wide ?_
  refine callsIn_of_wp_marks Try.func22 rfl trivial ?_ rfl
  simp only [Try.ntmps22, List.size_toArray, List.length_cons, List.length_nil, Nat.reduceAdd, Nat.reduceSub, Array.replicate_succ, Array.replicate_zero, List.push_toArray, List.append_toArray, List.nil_append, List.cons_append]
  gi_wp2_with (gi_at_call 45; refine (in_of_calls (where_c _ _ _ _ _ _)).mono ?_; rintro e w' ⟨rfl, rfl⟩)
  generalize hw0 : (w.alloc (.cells #[.int .i64 number] 3)).alloc (.cells #[.int .i64 0] 3) = w0
  have hs0 : w0.heap.size = w.heap.size + 2 := by rw [← hw0]; simp
  have hb0 : Below w.heap.size w w0 := by rw [← hw0]; exact ((Below.refl _ w).alloc (Nat.le_refl _) _).alloc (by simp) _
  have hC0 : Kd.C k54 w0 A xs.length xs := Kd.C_below hC hb0
  have hN0 : Boxed w0 w.heap.size 3 (.int .i64 number) := by rw [← hw0]; exact (Boxed.new w 3 _).alloc _
  have hR0 : Boxed w0 (w.heap.size + 1) 3 (.int .i64 0) := by rw [← hw0]; have := Boxed.new (w.alloc (.cells #[.int .i64 number] 3)) 3 (.int .i64 0); rwa [World.size_alloc] at this
  have hb1 := two_below A xs.length c (.func (.func 46) #[] #[.pointer (some ⟨w.heap.size, 0, none⟩)]) w0
  have hs1 := two_size A xs.length c (.func (.func 46) #[] #[.pointer (some ⟨w.heap.size, 0, none⟩)]) w0
  have hN1 : Boxed (two A xs.length c (.func (.func 46) #[] #[.pointer (some ⟨w.heap.size, 0, none⟩)]) w0) w.heap.size 3 (.int .i64 number) := (hb1.block _ (by omega)).trans hN0
  have hR1 : Boxed (two A xs.length c (.func (.func 46) #[] #[.pointer (some ⟨w.heap.size, 0, none⟩)]) w0) (w.heap.size + 1) 3 (.int .i64 0) := (hb1.block _ (by omega)).trans hR0
  have hit := seq_iter (pFind number) 46 #[.pointer (some ⟨w.heap.size, 0, none⟩)] A c xs (fun k => k = w.heap.size) w0 hC0 hxs (fun k h => by omega) (find_in _ _ _ number w.heap.size (.inr (.inr (.inr rfl))) hN1) (enters_of Try.func46 (by kernel_rfl) rfl)
  have hSl : ∀ k, SeqS A xs.length w0.heap.size (fun k => k = w.heap.size) k → k < (two A xs.length c (.func (.func 46) #[] #[.pointer (some ⟨w.heap.size, 0, none⟩)]) w0).heap.size := fun k hk => hk.lt hC0 (by omega) (by omega) (fun k h => by omega)
  generalize two A xs.length c (.func (.func 46) #[] #[.pointer (some ⟨w.heap.size, 0, none⟩)]) w0 = W1 at *
  have hB1 : Below w.heap.size w W1 := hb0.trans (hb1.mono (by omega))
  refine wp_range (Pv := NoCells) (fun _ h => h) rfl (enters_of Try.func72 (by kernel_rfl) rfl) hit (Below.refl _ _)
    (fun h k => h.trans k) (KeepsS.put hSl) (fun _ => rfl)
    (fun pre W => (pre = [] ∧ Boxed W (w.heap.size + 1) 3 (.int .i64 0)) ∧ Below w.heap.size w W)
    (fun c pre W => (c = .ret ∧ ∃ x : Int, pre = [x] ∧ Boxed W (w.heap.size + 1) 3 (.int .i64 x)) ∧ Below w.heap.size w W)
    (((OwnP.const _ _ _).and (OwnP.box NoCells (by omega) 3 _)).and (OwnP.below NoCells (by omega) (by omega)))
    (fun c => OwnP.and (fun s W W' row hs hg hr => by
      obtain ⟨hc, x, hx, h1⟩ := hs
      exact ⟨hc, x, hx, h1.kept hg (fun e => by have := (hr _ e.symm).1; omega)⟩) (OwnP.below NoCells (by omega) (by omega)))
    ⟨⟨rfl, hR1⟩, hB1⟩ ?round ?done ?stop
  case round =>
    rintro l pre x post W hps hl hlt ⟨⟨rfl, h1⟩, hB⟩
    gi_wp2
    refine ⟨KeepsFrom.refl _ _, KeepsS.refl _ _ _, ⟨⟨by trivial, h1⟩, hB⟩, ?_⟩
    clear h1 hB hit hN0 hN1 hR0 hR1 hb0 hb1 hB1 hC0 hSl hw0
    rintro W2 hg ⟨⟨-, h1⟩, hB⟩
    have c1 := h1.cell
    have f1 := h1.frozen
    gi_wp2
    exact ⟨(KeepsOthers.setCell _ _ _).from _, ⟨rfl, x, rfl, h1.set _⟩, hB.setCell (p := ⟨w.heap.size + 1, 0, none⟩) (by simp) _⟩
  case done =>
    rintro D W hD ⟨⟨hnil, h1⟩, hB⟩ hK
    have c1 := h1.cell
    have f1 := h1.frozen
    gi_wp2
    have hK2 := (KeepsOthers.setCell W ⟨w.heap.size + 1, 0, none⟩ (.int .i64 (-1))).same D _ hK rfl
    have d1 := (boxed_putD (h1.set (.int .i64 (-1))) (D := D) (by omega) (.deferred none)).cell
    refine leave_mark hK2 (v := .int .i64 (-1)) (by simp [results, Try.results22, go_sem, d1]) ⟨?_, ?_⟩
    · rw [findOf, hnil]; rfl
    · exact below_putD (hB.setCell (p := ⟨w.heap.size + 1, 0, none⟩) (by simp) _) (by omega) _
  case stop =>
    rintro D c pre x post W hps hD ⟨⟨rfl, y, hy, h1⟩, hB⟩ hK
    gi_wp2
    obtain ⟨rfl, rfl⟩ : pre = [] ∧ x = y := by
      cases pre with
      | nil => simpa using hy
      | cons z zs => simp at hy
    have d1 := (boxed_putD h1 (D := D) (by omega) (.deferred none)).cell
    refine leave_mark hK (v := .int .i64 x) (by simp [results, Try.results22, go_sem, d1]) ⟨?_, ?_⟩
    · rw [findOf, hps]; rfl
    · exact below_putD hB (by omega) _
theorem Before_c (p a q b : Int) (w : World) : Calls Try.prog 69 #[.int .i64 p, .int .i64 a, .int .i64 q, .int .i64 b] w fun e w' => e = .returned (.bool (decide (p < q) || (p == q && decide (a < b)))) ∧ w = w' := by
  cases h1 : decide (p < q) with
  | true =>
    go_enter Try.func69, Try.ntmps69
    go_wp2
    go_ret
    exact ⟨rfl, rfl⟩
  | false =>
    cases h2 : (p == q) with
    | true =>
      go_enter Try.func69, Try.ntmps69
      go_wp2
      go_ret
      exact ⟨rfl, rfl⟩
    | false =>
      go_enter Try.func69, Try.ntmps69
      go_wp2
      go_ret
      exact ⟨rfl, rfl⟩
def before (p a q b : Int) : Bool := decide (p < q) || (p == q && decide (a < b))
structure Cand where
  id : Int
  pr : Int
  gr : Int
  is : Bool
def Cand.cells (c : Cand) : Array Value := #[.int .i64 c.id, .int .i64 c.pr, .int .i64 c.gr, .bool c.is]
def Cand.zero : Cand := ⟨0, 0, 0, false⟩
def bestStep (xs : List S54) (c : Cand) (k : Int) : Cand :=
  if !c.is || before (rd_T54 xs k).f2 (rd_T54 xs k).f1 c.pr c.id then ⟨(rd_T54 xs k).f1, (rd_T54 xs k).f2, (rd_T54 xs k).f3, true⟩ else c
def bestOf (xs : List S54) (ks : List Int) : Cand := ks.foldl (bestStep xs) Cand.zero
theorem bestOf_snoc (xs : List S54) (ks : List Int) (k : Int) : bestOf xs (ks ++ [k]) = bestStep xs (bestOf xs ks) k := by simp [bestOf]
set_option maxRecDepth 100000 in
set_option maxHeartbeats 4000000 in
theorem Best_c (A : Option Addr) (c : Nat) (xs : List S54) (w : World) (hC : Kd.C k54 w A xs.length xs) (hxs : xs.length ≤ 9223372036854775807) : Calls Try.prog 40 #[.slice A xs.length c] w fun e w' =>
    e = .returned (.agg (bestOf xs (places pWaits xs)).cells) ∧ Below w.heap.size w w' := by
  refine calls_of_wide ?_
  refine callsIn_of_wp_marks Try.func40 rfl trivial ?_ rfl
  simp only [Try.ntmps40, List.size_toArray, List.length_cons, List.length_nil, Nat.reduceAdd, Nat.reduceSub, Array.replicate_succ, Array.replicate_zero, List.push_toArray, List.append_toArray, List.nil_append, List.cons_append]
  gi_wp2_with (gi_at_call 52; refine (in_of_calls (Waits_c _ _ _ _)).mono ?_; rintro e w' ⟨rfl, rfl⟩)
  generalize hw0 : ((w.alloc (.cells #[.slice A xs.length c] 22)).alloc (.cells #[.int .i64 0, .int .i64 0, .int .i64 0, .bool false] 47)).alloc (.cells #[.int .i64 0, .int .i64 0, .int .i64 0, .bool false] 47) = w0
  have hs0 : w0.heap.size = w.heap.size + 3 := by rw [← hw0]; simp
  have hb0 : Below w.heap.size w w0 := by rw [← hw0]; exact (((Below.refl _ w).alloc (Nat.le_refl _) _).alloc (by simp) _).alloc (by simp; omega) _
  have hC0 : Kd.C k54 w0 A xs.length xs := Kd.C_below hC hb0
  have hL0 : Boxed w0 w.heap.size 22 (.slice A xs.length c) := by rw [← hw0]; exact ((Boxed.new w 22 _).alloc _).alloc _
  have hR0 : BoxN w0 (w.heap.size + 1) 47 #[.int .i64 0, .int .i64 0, .int .i64 0, .bool false] := by
    rw [← hw0]; have := (BoxN.new (w.alloc (.cells #[.slice A xs.length c] 22)) 47 #[.int .i64 0, .int .i64 0, .int .i64 0, .bool false]).alloc (.cells #[.int .i64 0, .int .i64 0, .int .i64 0, .bool false] 47); rwa [World.size_alloc] at this
  have hV0 : BoxN w0 (w.heap.size + 2) 47 #[.int .i64 0, .int .i64 0, .int .i64 0, .bool false] := by
    rw [← hw0]; have := BoxN.new ((w.alloc (.cells #[.slice A xs.length c] 22)).alloc (.cells #[.int .i64 0, .int .i64 0, .int .i64 0, .bool false] 47)) 47 #[.int .i64 0, .int .i64 0, .int .i64 0, .bool false]; simpa using this
  have hb1 := two_below A xs.length c (.func (.func 75) #[] #[]) w0
  have hs1 := two_size A xs.length c (.func (.func 75) #[] #[]) w0
  have hit := seq_iter pWaits 75 #[] A c xs (fun _ => False) w0 hC0 hxs (fun k h => h.elim) (waits_in _ _ _) (enters_of Try.func75 (by kernel_rfl) rfl)
  have hSl : ∀ k, SeqS A xs.length w0.heap.size (fun _ => False) k → k < (two A xs.length c (.func (.func 75) #[] #[]) w0).heap.size := fun k hk => hk.lt hC0 (by omega) (by omega) (fun k h => h.elim)
  have hSn : ∀ k, SeqS A xs.length w0.heap.size (fun _ => False) k → k ≠ w.heap.size + 2 := by
    rintro k (h | rfl | rfl | h)
    · have := h.lt hC; omega
    · omega
    · omega
    · exact h.elim
  have hL1 : Boxed (two A xs.length c (.func (.func 75) #[] #[]) w0) w.heap.size 22 (.slice A xs.length c) := (hb1.block _ (by omega)).trans hL0
  have hR1 : BoxN (two A xs.length c (.func (.func 75) #[] #[]) w0) (w.heap.size + 1) 47 #[.int .i64 0, .int .i64 0, .int .i64 0, .bool false] := (hb1.block _ (by omega)).trans hR0
  have hV1 : BoxN (two A xs.length c (.func (.func 75) #[] #[]) w0) (w.heap.size + 2) 47 #[.int .i64 0, .int .i64 0, .int .i64 0, .bool false] := (hb1.block _ (by omega)).trans hV0
  generalize two A xs.length c (.func (.func 75) #[] #[]) w0 = W1 at *
  have hB1 : Below w.heap.size w W1 := hb0.trans (hb1.mono (by omega))
  refine wp_range (Pv := NoCells) (fun _ h => h) rfl (enters_of Try.func72 (by kernel_rfl) rfl) hit (Below.refl _ _)
    (fun h k => h.trans k) (KeepsS.put hSl) (fun _ => rfl)
    (fun pre W => (Boxed W w.heap.size 22 (.slice A xs.length c) ∧ BoxN W (w.heap.size + 1) 47 #[.int .i64 0, .int .i64 0, .int .i64 0, .bool false] ∧ BoxN W (w.heap.size + 2) 47 (bestOf xs pre).cells) ∧ Below w.heap.size w W) (fun _ _ _ => False)
    (((OwnP.box NoCells (by omega) 22 (fun _ : List Int => .slice A xs.length c)).and ((OwnP.boxN NoCells (by omega) 47 (fun _ : List Int => #[.int .i64 0, .int .i64 0, .int .i64 0, .bool false])).and (OwnP.boxN NoCells (by omega) 47 (fun pre : List Int => (bestOf xs pre).cells)))).and (OwnP.below NoCells (by omega) (by omega))) (fun _ => OwnP.const _ _ (fun _ => False))
    ⟨⟨hL1, hR1, hV1⟩, hB1⟩ ?round ?done ?stop
  case round =>
    rintro l pre x post W hps hl hlt ⟨⟨h1, h2, h3⟩, hB⟩
    clear hit hL0 hL1 hR0 hR1 hV0 hV1 hb0 hb1 hB1 hC0 hSl hw0
    have hxm : x ∈ pl pWaits xs xs.length := (show x ∈ places pWaits xs by rw [hps]; simp)
    have hmem : 0 ≤ x ∧ x < xs.length ∧ pWaits (rd_T54 xs x) = true := pl_mem pWaits xs xs.length x hxm
    clear hxm
    obtain ⟨j, rfl⟩ : ∃ j : Nat, x = (j : Int) := ⟨x.toNat, by omega⟩
    have hj0 : 0 ≤ (j : Int) := by omega
    have hj1 : j < xs.length := by omega
    clear hps hmem
    gi_wp2
    refine ⟨KeepsFrom.refl _ _, KeepsS.refl _ _ _, ⟨⟨h1, h2, h3⟩, hB⟩, ?_⟩
    clear h1 h2 h3 hB
    rintro W2 hg ⟨⟨h1, h2, h3⟩, hB⟩
    have hsz : w.heap.size + 5 ≤ W2.heap.size := by have := hg.size; omega
    clear hg hl hlt
    obtain ⟨ad, rfl, e0, e1, e2, e3, e4, e5, e6⟩ := C_keeps (S := fun k => k < w.heap.size) (T := fun _ => False) hC (KeepsS.new hB (fun k h => h)) (fun k h => h.lt hC) j hj1
    have hd1 : decide (j < xs.length) = true := decide_eq_true hj1
    have c1 := h1.cell
    generalize hbest : bestOf xs pre = bst at *
    obtain ⟨b0, b1, b2, b3⟩ := bst
    have c3 : ∀ o, (W2.alloc o).cell? ⟨w.heap.size + 2, 3, none⟩ = some (.bool b3) := fun o => (h3.alloc o).cell (i := 3) rfl
    have c31 : ∀ o, (W2.alloc o).cell? ⟨w.heap.size + 2, 1, none⟩ = some (.int .i64 b1) := fun o => (h3.alloc o).cell (i := 1) rfl
    have c30 : ∀ o, (W2.alloc o).cell? ⟨w.heap.size + 2, 0, none⟩ = some (.int .i64 b0) := fun o => (h3.alloc o).cell (i := 0) rfl
    have c32 : ∀ o, (W2.alloc o).cell? ⟨w.heap.size + 2, 2, none⟩ = some (.int .i64 b2) := fun o => (h3.alloc o).cell (i := 2) rfl
    have f3 : ∀ o i, (W2.alloc o).frozen? ⟨w.heap.size + 2, i, none⟩ = false := fun o i => (h3.alloc o).frozen i
    have HB_ := Lib.hid hbest
    clear hbest
    cases b3 with
    | false =>
      gi_wp2
      generalize hnb : W2.alloc (.cells #[.int .i64 (rd_T54 xs j).f0, .int .i64 (rd_T54 xs j).f1, .int .i64 (rd_T54 xs j).f2, .int .i64 (rd_T54 xs j).f3, .bool (rd_T54 xs j).f4, .int .i64 (rd_T54 xs j).f5, .bool (rd_T54 xs j).f6] 54) = W3
      have hB3 : Below w.heap.size w W3 := by rw [← hnb]; exact hB.alloc (by omega) _
      have hk3 : KeepsOthers W2 W3 := by rw [← hnb]; exact KeepsOthers.alloc _ _
      have hS3 : KeepsS (SeqS (some ad) xs.length w0.heap.size fun x => False) (fun x => False) W2 W3 := by
        rw [← hnb]; exact KeepsS.new ((Below.refl _ _).alloc (Nat.le_refl _) _) (fun k hk => hk.lt hC (by omega) (by omega) (fun k h => h.elim))
      have g1 : Boxed W3 w.heap.size 22 (.slice (some ad) xs.length c) := by rw [← hnb]; exact h1.alloc _
      have g2 : BoxN W3 (w.heap.size + 1) 47 #[.int .i64 0, .int .i64 0, .int .i64 0, .bool false] := by rw [← hnb]; exact h2.alloc _
      have g3 : BoxN W3 (w.heap.size + 2) 47 #[.int .i64 b0, .int .i64 b1, .int .i64 b2, .bool false] := by rw [← hnb]; exact h3.alloc _
      have ok := set_all (w.heap.size + 1 + 1) 47 [(0, .int .i64 (rd_T54 xs j).f1), (1, .int .i64 (rd_T54 xs j).f2), (2, .int .i64 (rd_T54 xs j).f3), (3, .bool true)] W3 _ g3
      simp only [setL, putL] at ok
      refine ⟨(hk3.trans ok.others).from _, hS3.trans (ok.keeps _ _ (fun h => h) hSn), ⟨ok.boxed g1 (by omega), ok.boxN g2 (by omega), ?_⟩, ok.below _ _ (by omega) hB3⟩
      have := ok.box
      clear ok
      rw [bestOf_snoc, HB_.out, bestStep, if_pos (by simp)]
      exact this
    | true =>
      cases hbf : before (rd_T54 xs j).f2 (rd_T54 xs j).f1 b1 b0 with
      | true =>
        have HF := Lib.hid hbf
        have hcall := Before_c (rd_T54 xs j).f2 (rd_T54 xs j).f1 b1 b0
        rw [show (decide ((rd_T54 xs j).f2 < b1) || ((rd_T54 xs j).f2 == b1 && decide ((rd_T54 xs j).f1 < b0))) = true from hbf] at hcall
        have HC_ := Lib.hid hcall
        clear hbf hcall
        gi_wp2_with (gi_at_call 69; refine (CallsIn.inRound l (in_of_calls (HC_.out _))).mono ?_; rintro e w' ⟨rfl, rfl⟩)
        generalize hnb : W2.alloc (.cells #[.int .i64 (rd_T54 xs j).f0, .int .i64 (rd_T54 xs j).f1, .int .i64 (rd_T54 xs j).f2, .int .i64 (rd_T54 xs j).f3, .bool (rd_T54 xs j).f4, .int .i64 (rd_T54 xs j).f5, .bool (rd_T54 xs j).f6] 54) = W3
        have hB3 : Below w.heap.size w W3 := by rw [← hnb]; exact hB.alloc (by omega) _
        have hk3 : KeepsOthers W2 W3 := by rw [← hnb]; exact KeepsOthers.alloc _ _
        have hS3 : KeepsS (SeqS (some ad) xs.length w0.heap.size fun x => False) (fun x => False) W2 W3 := by
          rw [← hnb]; exact KeepsS.new ((Below.refl _ _).alloc (Nat.le_refl _) _) (fun k hk => hk.lt hC (by omega) (by omega) (fun k h => h.elim))
        have g1 : Boxed W3 w.heap.size 22 (.slice (some ad) xs.length c) := by rw [← hnb]; exact h1.alloc _
        have g2 : BoxN W3 (w.heap.size + 1) 47 #[.int .i64 0, .int .i64 0, .int .i64 0, .bool false] := by rw [← hnb]; exact h2.alloc _
        have g3 : BoxN W3 (w.heap.size + 2) 47 #[.int .i64 b0, .int .i64 b1, .int .i64 b2, .bool true] := by rw [← hnb]; exact h3.alloc _
        have ok := set_all (w.heap.size + 1 + 1) 47 [(0, .int .i64 (rd_T54 xs j).f1), (1, .int .i64 (rd_T54 xs j).f2), (2, .int .i64 (rd_T54 xs j).f3), (3, .bool true)] W3 _ g3
        simp only [setL, putL] at ok
        refine ⟨(hk3.trans ok.others).from _, hS3.trans (ok.keeps _ _ (fun h => h) hSn), ⟨ok.boxed g1 (by omega), ok.boxN g2 (by omega), ?_⟩, ok.below _ _ (by omega) hB3⟩
        have := ok.box
        clear ok
        rw [bestOf_snoc, HB_.out, bestStep, if_pos (by simp [HF.out])]
        exact this
      | false =>
        have HF := Lib.hid hbf
        have hcall := Before_c (rd_T54 xs j).f2 (rd_T54 xs j).f1 b1 b0
        rw [show (decide ((rd_T54 xs j).f2 < b1) || ((rd_T54 xs j).f2 == b1 && decide ((rd_T54 xs j).f1 < b0))) = false from hbf] at hcall
        have HC_ := Lib.hid hcall
        clear hbf hcall
        gi_wp2_with (gi_at_call 69; refine (CallsIn.inRound l (in_of_calls (HC_.out _))).mono ?_; rintro e w' ⟨rfl, rfl⟩)
        generalize hnb : W2.alloc (.cells #[.int .i64 (rd_T54 xs j).f0, .int .i64 (rd_T54 xs j).f1, .int .i64 (rd_T54 xs j).f2, .int .i64 (rd_T54 xs j).f3, .bool (rd_T54 xs j).f4, .int .i64 (rd_T54 xs j).f5, .bool (rd_T54 xs j).f6] 54) = W3
        have hB3 : Below w.heap.size w W3 := by rw [← hnb]; exact hB.alloc (by omega) _
        have hk3 : KeepsOthers W2 W3 := by rw [← hnb]; exact KeepsOthers.alloc _ _
        have hS3 : KeepsS (SeqS (some ad) xs.length w0.heap.size fun x => False) (fun x => False) W2 W3 := by
          rw [← hnb]; exact KeepsS.new ((Below.refl _ _).alloc (Nat.le_refl _) _) (fun k hk => hk.lt hC (by omega) (by omega) (fun k h => h.elim))
        have g1 : Boxed W3 w.heap.size 22 (.slice (some ad) xs.length c) := by rw [← hnb]; exact h1.alloc _
        have g2 : BoxN W3 (w.heap.size + 1) 47 #[.int .i64 0, .int .i64 0, .int .i64 0, .bool false] := by rw [← hnb]; exact h2.alloc _
        have g3 : BoxN W3 (w.heap.size + 2) 47 #[.int .i64 b0, .int .i64 b1, .int .i64 b2, .bool true] := by rw [← hnb]; exact h3.alloc _
        refine ⟨hk3.from _, hS3, ⟨g1, g2, ?_⟩, hB3⟩
        rw [bestOf_snoc, HB_.out, bestStep, if_neg (by simp [HF.out])]
        exact g3
  case done =>
    rintro D W hD ⟨⟨h1, h2, h3⟩, hB⟩ hK
    generalize hbest : bestOf xs (places pWaits xs) = bst at *
    obtain ⟨b0, b1, b2, b3⟩ := bst
    have c0 : W.cell? ⟨w.heap.size + 2, 0, none⟩ = some (.int .i64 b0) := h3.cell (i := 0) rfl
    have c1 : W.cell? ⟨w.heap.size + 2, 1, none⟩ = some (.int .i64 b1) := h3.cell (i := 1) rfl
    have c2 : W.cell? ⟨w.heap.size + 2, 2, none⟩ = some (.int .i64 b2) := h3.cell (i := 2) rfl
    have c3 : W.cell? ⟨w.heap.size + 2, 3, none⟩ = some (.bool b3) := h3.cell (i := 3) rfl
    have r0 : W.cell? ⟨w.heap.size + 1, 0, none⟩ = some (.int .i64 0) := h2.cell (i := 0) rfl
    have r1 : W.cell? ⟨w.heap.size + 1, 1, none⟩ = some (.int .i64 0) := h2.cell (i := 1) rfl
    have r2 : W.cell? ⟨w.heap.size + 1, 2, none⟩ = some (.int .i64 0) := h2.cell (i := 2) rfl
    have r3 : W.cell? ⟨w.heap.size + 1, 3, none⟩ = some (.bool false) := h2.cell (i := 3) rfl
    have f2 := h2.frozen
    have HB_ := Lib.hid hbest
    clear hbest
    gi_wp2
    have ok := set_all (w.heap.size + 1) 47 [(0, .int .i64 b0), (1, .int .i64 b1), (2, .int .i64 b2), (3, .bool b3)] W _ h2
    simp only [setL, putL] at ok
    have hKD := ok.others.same D _ hK rfl
    have hbx := boxN_putD ok.box (D := D) (by omega) (.deferred none)
    have d0 := hbx.cell (i := 0) rfl
    have d1 := hbx.cell (i := 1) rfl
    have d2 := hbx.cell (i := 2) rfl
    have d3 := hbx.cell (i := 3) rfl
    refine leave_mark hKD (v := .agg #[.int .i64 b0, .int .i64 b1, .int .i64 b2, .bool b3]) (by simp [results, Try.results40, go_sem, d0, d1, d2, d3]) ⟨by rw [HB_.out]; rfl, below_putD (ok.below _ _ (by omega) hB) (by omega) _⟩
  case stop =>
    rintro D c pre x post W _ _ h _
    exact h.elim
end Go.Proofs.Ytkbaghblchlcnaa.Lr
namespace Go.Proofs.Ytkbaghblchlcnaa.Lr
open Go.RowKit Go.Shelf Go.Proofs.YtkbaghblchlcnaaW.PrintWords Go.Proofs.YtkbaghblchlcnaaW.PrintMore Go.Proofs.Ytkbaghblchlcnaa.IAll
theorem fld47_0 (a b c : Int) (d : Bool) (w : World) : (Instr.field 47 (.agg #[.int .i64 a, .int .i64 b, .int .i64 c, .bool d]) 0).run Try.prog w = .ok (.int .i64 a) w := by kernel_rfl
attribute [go_sem] fld47_0
def lr_Used.f (l0 : List S54) : Option Int := if l0.length ≤ 9223372036854775807 then some ((l0.length : Int) - (places pFree l0).length) else none
theorem lr_Used.calls (A0 : Option Addr) (c0 : Nat) (l0 : List S54) (r : Int) (w : World) (hr0 : Kd.C k54 w A0 l0.length l0) (_hc0 : l0.length ≤ c0) (h : lr_Used.f l0 = some r) :
    Calls Try.prog 14 #[.slice A0 l0.length c0] w fun e w' => e = .returned (.int .i64 r) ∧ Below w.heap.size w w' := by
  unfold lr_Used.f at h
  split at h
  · rename_i hl
    obtain rfl := Option.some.inj h
    exact Used_c A0 c0 l0 w hr0 hl
  · cases h
theorem bits_seq (p : S54 → Bool) (gi : Nat) (A0 : Option Addr) (c0 : Nat) (l0 : List S54) (w : World) (hr0 : Kd.C k54 w A0 l0.length l0) (hl : l0.length ≤ 9223372036854775807)
    (hin : InOk (SeqS A0 l0.length w.heap.size (fun _ => False)) (fun _ => False) gi #[] p (two A0 l0.length c0 (.func (.func gi) #[] #[]) w)) (hen : ∀ args w, (callFunc gi args).run Try.prog w = .ok (.enter gi args) w) :
    Calls Try.prog 50 #[seqV w] (two A0 l0.length c0 (.func (.func gi) #[] #[]) w) fun e w' => e = .returned (.int .u64 (bitsOf (places p l0))) ∧ Below w.heap.size w w' := by
  have hs := two_size A0 l0.length c0 (.func (.func gi) #[] #[]) w
  refine (Bits_c 72 _ (places p l0) _ _ (fun k hk => hk.lt hr0 (by omega) (by omega) (fun k h => h.elim)) (enters_of Try.func72 (by kernel_rfl) rfl)
    (seq_iter p gi #[] A0 c0 l0 (fun _ => False) w hr0 hl (fun k h => h.elim) hin hen) (fun x hx => (pl_mem p l0 l0.length x hx).1)).mono fun e w' ⟨h1, h2⟩ => ⟨h1, (two_below _ _ _ _ w).trans (h2.mono (by omega))⟩
def lr_Bits_Waits.f (l0 : List S54) : Option Int := if l0.length ≤ 9223372036854775807 then some (bitsOf (places pWaits l0)) else none
theorem lr_Bits_Waits.calls (A0 : Option Addr) (c0 : Nat) (l0 : List S54) (r : Int) (w : World) (hr0 : Kd.C k54 w A0 l0.length l0) (_hc0 : l0.length ≤ c0) (h : lr_Bits_Waits.f l0 = some r) :
    Calls Try.prog 50 #[seqV w] (two A0 l0.length c0 (.func (.func 75) #[] #[]) w) fun e w' => e = .returned (.int .u64 r) ∧ Below w.heap.size w w' := by
  unfold lr_Bits_Waits.f at h
  split at h
  · rename_i hl
    obtain rfl := Option.some.inj h
    exact bits_seq pWaits 75 A0 c0 l0 w hr0 hl (waits_in _ _ _) (enters_of Try.func75 (by kernel_rfl) rfl)
  · cases h
def lr_Bits_Done.f (l0 : List S54) : Option Int := if l0.length ≤ 9223372036854775807 then some (bitsOf (places pDone l0)) else none
theorem lr_Bits_Done.calls (A0 : Option Addr) (c0 : Nat) (l0 : List S54) (r : Int) (w : World) (hr0 : Kd.C k54 w A0 l0.length l0) (_hc0 : l0.length ≤ c0) (h : lr_Bits_Done.f l0 = some r) :
    Calls Try.prog 50 #[seqV w] (two A0 l0.length c0 (.func (.func 74) #[] #[]) w) fun e w' => e = .returned (.int .u64 r) ∧ Below w.heap.size w w' := by
  unfold lr_Bits_Done.f at h
  split at h
  · rename_i hl
    obtain rfl := Option.some.inj h
    exact bits_seq pDone 74 A0 c0 l0 w hr0 hl (done_in _ _ _) (enters_of Try.func74 (by kernel_rfl) rfl)
  · cases h
end Go.Proofs.Ytkbaghblchlcnaa.Lr
namespace Go.Proofs.Ytkbaghblchlcnaa
open Go.RowKit
theorem tb_bytemask (j : Nat) (hj : j ≤ 8) (k : Nat) : tb (256 - 2 ^ j) k = (decide (j ≤ k) && decide (k < 8)) := by
  have e : (256 - 2 ^ j : Int) = (2 ^ (8 - j) - 1) * 2 ^ j := by
    have : (2 : Int) ^ (8 - j) * 2 ^ j = 256 := by
      rw [← Int.pow_add, show 8 - j + j = 8 by omega]; rfl
    rw [Int.sub_mul, this]; omega
  rw [e, tb_mul, tb_mask]
  by_cases h : j ≤ k
  · simp [h]; omega
  · simp [h]
/-- the high part of the low byte -/
theorem and_bytemask (x : Int) (j : Nat) (hj : j ≤ 8) : bits .and .i64 x (256 - 2 ^ j) = x % 256 / 2 ^ j * 2 ^ j := by
  have hp : (2 : Int) ^ j > 0 := Int.pow_pos (by decide)
  have h1 : 0 ≤ x % 256 / 2 ^ j * 2 ^ j := Int.mul_nonneg (Int.ediv_nonneg (by omega) (by omega)) (by omega)
  have h2 : x % 256 / 2 ^ j * 2 ^ j ≤ x % 256 := Int.ediv_mul_le _ (by omega)
  refine ext_i64 (bits_i64_in _ _ _) ⟨by omega, by omega⟩ fun k hk => ?_
  rw [tb_and_i _ _ _ hk, tb_bytemask j hj, tb_mul, tb_div, show (256 : Int) = 2 ^ 8 from rfl, tb_mod]
  by_cases h : j ≤ k
  · simp [h, show j + (k - j) = k by omega]; rw [Bool.and_comm]
  · simp [h]
theorem and_248 (x : Int) : bits .and .i64 x 248 = x % 256 / 8 * 8 := and_bytemask x 3 (by decide)
end Go.Proofs.Ytkbaghblchlcnaa
-- Written by the program wip/gen/inj.py of this repository, out of the translation, for this claim. Not trusted: Lean checks it.
namespace Go.Proofs.Ytkbaghblchlcnaa.IAll
open Go.RowKit Go.Proofs.YtkbaghblchlcnaaW.PrintWords Go.Proofs.YtkbaghblchlcnaaW.PrintLast Go.Proofs.YtkbaghblchlcnaaW.PrintMore
attribute [local go_sem] max2_int min2_int max_two min_two max_three min_three max_four min_four   -- for this text's walks alone
set_option linter.unusedVariables false
set_option linter.unusedSimpArgs false
-- NOT PRINTED: function 12 (vcpu_New)
/-! ### prio_Real: function 76 -/
def prio_Real.f (a0 : Int) : Option (Int) := some (Go.bits .and .i64 a0 248)
set_option maxHeartbeats 8000000 in
set_option maxRecDepth 100000 in
theorem prio_Real.calls (a0 : Int) (r : Int) (w : World) (h : prio_Real.f a0 = some r) :
    Calls Try.prog 76 #[.int .i64 a0] w fun e w' => e = .returned (.int .i64 r) ∧ Drawn0 w w' := by
  have H : (some (Go.bits .and .i64 a0 248)) = some r := h
  clear h
  obtain rfl := Option.some.inj H
  go_enter Try.func76, Try.ntmps76
  go_wp2
  go_ret
  exact ⟨by first | rfl | (simp; done) | (simp [*]; done), by repeat (first | exact Drawn0.refl _ | apply Drawn0.step)⟩
end Go.Proofs.Ytkbaghblchlcnaa.IAll
namespace Go.Proofs.Ytkbaghblchlcnaa
open Go.RowKit Go.Shelf
def rowAt (w : World) (g : Nat) : Array Value := match w.heap[g]? with | some (.cells cs _ _) => cs | _ => #[]
def isRow (w : World) (g : Nat) : Prop := ∃ cs t, w.heap[g]? = some (.cells cs t (0, 0))
/-- block g is a row of these cells -/
abbrev Row (w : World) (g : Nat) (cs : Array Value) : Prop := isRow w g ∧ rowAt w g = cs
theorem Row.of {w : World} {g : Nat} {t : TypeId} {cs : Array Value} (h : BoxN w g t cs) : Row w g cs := ⟨⟨cs, t, h⟩, by unfold rowAt; rw [show w.heap[g]? = _ from h]⟩
theorem isRow.box {w : World} {g : Nat} (h : isRow w g) : ∃ t, BoxN w g t (rowAt w g) := by
  obtain ⟨cs, t, h⟩ := h
  exact ⟨t, by unfold rowAt; rw [h]; exact h⟩
theorem Row.box {w : World} {g : Nat} {cs : Array Value} (h : Row w g cs) : ∃ t, BoxN w g t cs := by
  obtain ⟨t, ht⟩ := h.1.box
  exact ⟨t, by rw [← h.2]; exact ht⟩
theorem isRow.lt {w : World} {g : Nat} (h : isRow w g) : g < w.heap.size := by obtain ⟨t, ht⟩ := h.box; exact ht.lt
theorem Row.lt {w : World} {g : Nat} {cs : Array Value} (h : Row w g cs) : g < w.heap.size := h.1.lt
theorem Row.same {w w' : World} {g : Nat} {cs : Array Value} (h : Row w g cs) (he : w'.heap[g]? = w.heap[g]?) : Row w' g cs := by
  obtain ⟨t, ht⟩ := h.box
  exact Row.of (t := t) (show BoxN w' g t cs from he.trans ht)
theorem Row.below {n : Nat} {w w' : World} {g : Nat} {cs : Array Value} (h : Row w g cs) (hb : Below n w w') (hg : g < n) : Row w' g cs := h.same (hb.block g hg)
theorem Row.new (w : World) (t : TypeId) (cs : Array Value) : Row (w.alloc (.cells cs t)) w.heap.size cs := Row.of (BoxN.new w t cs)
section rules
variable {w : World} {g i : Nat} {v : Value} {p : Addr} {cs : Array Value} {o : Obj} {t : TypeId}
theorem cell_row (h : isRow w g) : w.cell? ⟨g, i, none⟩ = (rowAt w g)[i]? := by
  obtain ⟨t, ht⟩ := h.box
  simp [World.cell?, show w.heap[g]? = _ from ht]
theorem frozen_row (h : isRow w g) : w.frozen? ⟨g, i, none⟩ = false := by
  obtain ⟨t, ht⟩ := h.box
  exact ht.frozen i
theorem isRow_setCell (h : isRow w g) : isRow (w.setCell p v) g := by
  obtain ⟨t, ht⟩ := h.box
  by_cases e : g = p.block
  · obtain ⟨hlt, hk⟩ := Array.getElem?_eq_some_iff.1 (show w.heap[g]? = _ from ht)
    refine ⟨if p.spot.isSome = true then rowAt w g else (rowAt w g).setIfInBounds p.off v, t, ?_⟩
    show (w.heap.modify p.block _)[g]? = _
    subst e
    rw [Array.getElem?_eq_getElem (by rw [Array.size_modify]; exact hlt), Array.getElem_modify_self, hk]
  · exact (Row.of (boxN_other ht p e v)).1
theorem rowAt_setCell_same (h : isRow w g) : rowAt (w.setCell ⟨g, i, none⟩ v) g = (rowAt w g).setIfInBounds i v := by
  obtain ⟨t, ht⟩ := h.box
  exact (Row.of (ht.set i v)).2
theorem rowAt_setCell_other (hne : ¬ g = p.block) : rowAt (w.setCell p v) g = rowAt w g := by
  unfold rowAt
  rw [show (w.setCell p v).heap[g]? = w.heap[g]? from Below.heap_setCell w p v g hne]
theorem isRow_alloc (h : isRow w g) : isRow (w.alloc o) g := by
  obtain ⟨t, ht⟩ := h.box
  exact (Row.of (ht.alloc o)).1
theorem rowAt_alloc (h : isRow w g) : rowAt (w.alloc o) g = rowAt w g := by
  obtain ⟨t, ht⟩ := h.box
  exact (Row.of (ht.alloc o)).2
theorem isRow_new : isRow (w.alloc (.cells cs t)) w.heap.size := (Row.new w t cs).1
theorem rowAt_new : rowAt (w.alloc (.cells cs t)) w.heap.size = cs := (Row.new w t cs).2
theorem isRow_setRow (h : isRow w g) {k : Nat} : isRow (w.setRow k cs) g := by
  obtain ⟨t, ht⟩ := h.box
  by_cases e : g = k
  · subst e; exact ⟨cs, t, setRow_heap w g _ cs t (0, 0) ht⟩
  · exact ⟨_, t, (setRow_other w k g cs e).trans ht⟩
theorem rowAt_setRow_same (h : isRow w g) : rowAt (w.setRow g cs) g = cs := by
  obtain ⟨t, ht⟩ := h.box
  exact (Row.of (show BoxN (w.setRow g cs) g t cs from setRow_heap w g _ cs t (0, 0) ht)).2
theorem rowAt_setRow_other {k : Nat} (hne : ¬ g = k) : rowAt (w.setRow k cs) g = rowAt w g := by
  unfold rowAt; rw [setRow_other w k g cs hne]
theorem isRow_setCell_eq : isRow (w.setCell p v) g = isRow w g := propext ⟨fun ⟨cs, t, h⟩ => by
    by_cases e : g = p.block
    · subst e
      have h' : (w.heap.modify p.block _)[p.block]? = some (.cells cs t (0, 0)) := h
      rw [Array.getElem?_modify, if_pos rfl] at h'
      cases hk : w.heap[p.block]? with
      | none => rw [hk] at h'; simp at h'
      | some o =>
        rw [hk] at h'
        cases o <;> simp at h'
        rename_i c e f
        obtain ⟨_, rfl, rfl⟩ := h'
        exact ⟨c, e, hk⟩
    · exact ⟨cs, t, (Below.heap_setCell w p v g e).symm.trans h⟩, isRow_setCell⟩
theorem isRow_setRow_eq {k : Nat} : isRow (w.setRow k cs) g = isRow w g := propext ⟨fun ⟨ds, t, h⟩ => by
    by_cases e : g = k
    · subst e
      have h' : (w.heap.modify g _)[g]? = some (.cells ds t (0, 0)) := h
      rw [Array.getElem?_modify, if_pos rfl] at h'
      cases hk : w.heap[g]? with
      | none => rw [hk] at h'; simp at h'
      | some o =>
        rw [hk] at h'
        cases o <;> simp at h'
        rename_i c e f
        obtain ⟨_, rfl, rfl⟩ := h'
        exact ⟨c, e, hk⟩
    · exact ⟨ds, t, (setRow_other w k g cs e).symm.trans h⟩, fun h => isRow_setRow h⟩
theorem isRow_alloc_eq : isRow (w.alloc o) g = (isRow w g ∨ (g = w.heap.size ∧ ∃ cs t, o = .cells cs t (0, 0))) := propext ⟨fun ⟨ds, t, h⟩ => by
    have h' : (w.heap.push o)[g]? = _ := h
    rw [Array.getElem?_push] at h'
    split at h'
    · rename_i e; exact .inr ⟨e, ds, t, Option.some.inj h'⟩
    · exact .inl ⟨ds, t, h'⟩, fun h => by
    rcases h with h | ⟨rfl, cs, t, rfl⟩
    · exact isRow_alloc h
    · exact isRow_new⟩
theorem isRow_drew : isRow w.drew g = isRow w g := propext ⟨fun h => h, fun h => h⟩
theorem rowAt_drew : rowAt w.drew g = rowAt w g := by unfold rowAt; rfl
theorem size_setRow_ {k : Nat} : (w.setRow k cs).heap.size = w.heap.size := by simp
/-- a whole row read, written -/
theorem run_loadAt_row {P : Program} {ty : TypeId} {n : Nat} {d : TypeDesc} (hu : P.underlying ty = some d) (hd : (match d with | .struct _ | .array _ _ => true | _ => false) = true) (hn : (P.info? ty).map (·.size) = some n)
    (h : isRow w g) (hs : (rowAt w g).size = n) : (Instr.loadAt ty (.pointer (some ⟨g, 0, none⟩))).run P w = .ok (.agg (rowAt w g)) w := by
  obtain ⟨t, ht⟩ := h.box
  simp only [Instr.loadAt, Instr.sureAddr, Sem.run_bind, Sem.run_pure, Result.andThen_ok, run_loadVar_row w g t ty (rowAt w g) (0, 0) d ht hu hd (by rw [hs]; exact hn)]
theorem run_storeAt_row {P : Program} {ty : TypeId} {n : Nat} (hn : (P.info? ty).map (·.size) = some n) (h : isRow w g) (hs : (rowAt w g).size = n) (hc : cs.size = n) (h1 : cs.all (·.oneCell') = true) :
    (Instr.storeAt ty (.pointer (some ⟨g, 0, none⟩)) (.agg cs)).run P w = .ok () (w.setRow g cs) := by
  obtain ⟨t, ht⟩ := h.box
  simp only [Instr.storeAt, Instr.sureAddr, Sem.run_bind, Sem.run_pure, Result.andThen_ok, run_storeVar_row w g t ty (rowAt w g) cs ht (by rw [hc]; exact hn) (by rw [hs, hc]) h1]
/-- each cell is one cell (behind a name, so that no rule opens it) -/
def AllOne (cs : Array Value) : Prop := cs.all (·.oneCell') = true
theorem allOne_nil : AllOne #[] := by simp [AllOne]
theorem allOne_cons {l : List Value} : AllOne (v :: l).toArray = (v.oneCell' = true ∧ AllOne l.toArray) := by simp [AllOne]
/-- the same, whatever the operands are before they are reckoned -/
def blk : Value → Nat
  | .pointer (some a) => a.block
  | _ => 0
theorem blk_ptr {a : Addr} : blk (.pointer (some a)) = a.block := rfl
def aggOf : Value → Array Value
  | .agg cs => cs
  | _ => #[]
theorem aggOf_agg : aggOf (.agg cs) = cs := rfl
theorem run_loadAt_any {P : Program} {ty : TypeId} {n : Nat} {d : TypeDesc} (hu : P.underlying ty = some d) (hd : (match d with | .struct _ | .array _ _ => true | _ => false) = true) (hn : (P.info? ty).map (·.size) = some n) {x : Value}
    (hx : x = .pointer (some ⟨blk x, 0, none⟩)) (h : isRow w (blk x)) (hs : (rowAt w (blk x)).size = n) : (Instr.loadAt ty x).run P w = .ok (.agg (rowAt w (blk x))) w := by
  have := run_loadAt_row (w := w) hu hd hn h hs
  rwa [← hx] at this
theorem run_storeAt_any {P : Program} {ty : TypeId} {n : Nat} (hn : (P.info? ty).map (·.size) = some n) {x y : Value} (hx : x = .pointer (some ⟨blk x, 0, none⟩)) (hy : y = .agg (aggOf y)) (h : isRow w (blk x)) (hs : (rowAt w (blk x)).size = n)
    (hc : (aggOf y).size = n) (h1 : AllOne (aggOf y)) : (Instr.storeAt ty x y).run P w = .ok () (w.setRow (blk x) (aggOf y)) := by
  have := run_storeAt_row (w := w) (cs := aggOf y) hn h hs hc h1
  rwa [← hx, ← hy] at this
theorem run_load_op {P : Program} {ty : TypeId} {n : Nat} {d : TypeDesc} (hu : P.underlying ty = some d) (hd : (match d with | .struct _ | .array _ _ => true | _ => false) = true) (hn : (P.info? ty).map (·.size) = some n) {ρ : Operand → Value} {x : Operand} {dst : Option Tmp} {t0 : TypeId} {pos : String} {af : Array Edge} {gd : Option (Nat × Bool)}
    (hx : ρ x = .pointer (some ⟨blk (ρ x), 0, none⟩)) (h : isRow w (blk (ρ x))) (hs : (rowAt w (blk (ρ x))).size = n) :
    (execOp ρ { dst := dst, op := .load ty x, type := t0, pos := pos, after := af, guard := gd }).run P w = .ok (.value (.agg (rowAt w (blk (ρ x))))) w := by
  have := run_loadAt_any (w := w) hu hd hn hx h hs
  simp only [execOp, Sem.run_bind, this, Result.andThen_ok, Sem.run_pure]
theorem run_store_op {P : Program} {ty : TypeId} {n : Nat} (hn : (P.info? ty).map (·.size) = some n) {ρ : Operand → Value} {x y : Operand} {dst : Option Tmp} {t0 : TypeId} {pos : String} {af : Array Edge} {gd : Option (Nat × Bool)}
    (hx : ρ x = .pointer (some ⟨blk (ρ x), 0, none⟩)) (hy : ρ y = .agg (aggOf (ρ y))) (h : isRow w (blk (ρ x))) (hs : (rowAt w (blk (ρ x))).size = n) (hc : (aggOf (ρ y)).size = n) (h1 : AllOne (aggOf (ρ y))) :
    (execOp ρ { dst := dst, op := .store ty x y, type := t0, pos := pos, after := af, guard := gd }).run P w = .ok .skip (w.setRow (blk (ρ x)) (aggOf (ρ y))) := by
  have := run_storeAt_any (w := w) hn hx hy h hs hc h1
  simp only [execOp, Sem.run_bind, this, Result.andThen_ok, Sem.run_pure]
end rules
theorem rk1 {w w' : World} {g : Nat} (h : isRow w g) (hb : Below w.heap.size w w') : isRow w' g := (Row.below ⟨h, rfl⟩ hb h.lt).1
theorem rk2 {w w' : World} {g : Nat} {cs : Array Value} (h : isRow w g) (h2 : rowAt w g = cs) (hb : Below w.heap.size w w') : rowAt w' g = cs := (Row.below ⟨h, h2⟩ hb h.lt).2
theorem rk3 {w w' : World} {g : Nat} (h : isRow w g) (hb : Below w.heap.size w w') : rowAt w' g = rowAt w g := rk2 h rfl hb
theorem bk {n : Nat} {a w w' : World} (h : Below n a w) (hn : n ≤ w.heap.size) (hb : Below w.heap.size w w') : Below n a w' := h.trans (hb.mono hn)
theorem Row.step {w w' : World} {g : Nat} {cs : Array Value} (h : isRow w g) (h2 : rowAt w g = cs) (hb : Below w.heap.size w w') : Row w' g cs := Row.below ⟨h, h2⟩ hb h.lt
section
variable {n k : Nat} {a W : World} {o : Obj} {p : Addr} {v : Value} {cs : Array Value}
theorem below_alloc_r (h : Below n a W) (hn : n ≤ W.heap.size) : Below n a (W.alloc o) := h.alloc hn o
theorem below_setCell_r (h : Below n a W) (hp : n ≤ p.block) : Below n a (W.setCell p v) := h.setCell hp v
theorem below_drew_r : Below n a W.drew = Below n a W := propext ⟨fun h => ⟨h.os, h.tape, h.output, h.size, h.block⟩, fun h => ⟨h.os, h.tape, h.output, h.size, h.block⟩⟩
theorem le_add_r {x y z : Nat} (h : x ≤ y) : x ≤ y + z := Nat.le_trans h (Nat.le_add_right _ _)
end
theorem Row.setRow {w : World} {g : Nat} {cs : Array Value} (h : isRow w g) : Row (w.setRow g cs) g cs := ⟨isRow_setRow h, rowAt_setRow_same h⟩
theorem below_setRow {n : Nat} {a W : World} (h : Below n a W) {B : Nat} (hB : n ≤ B) (ws : Array Value) : Below n a (W.setRow B ws) :=
  ⟨h.os, h.tape, h.output, by simpa using h.size, fun k hk => (setRow_other W B k ws (by omega)).trans (h.block k hk)⟩
theorem below_drew0 {B : Nat} {W W' : World} (h : Below B W W') : Below B W W'.drew := ⟨h.os, h.tape, h.output, h.size, h.block⟩
theorem below_drewl {B : Nat} {W W' : World} (h : Below B W.drew W') : Below B W W' := ⟨h.os, h.tape, h.output, h.size, h.block⟩
theorem results_tmps {P : Program} {fn : Func} {p : Tmp} {ty : TypeId} {n : Nat} {d : TypeDesc} (h : fn.results = #[.cell p ty]) (tmps : Array Value) (w : World) (g : Nat) (cs : Array Value)
    (hp : tmps.getD p undef = .pointer (some ⟨g, 0, none⟩)) (hg : Row w g cs)
    (hu : P.underlying ty = some d) (hd : (match d with | .struct _ | .array _ _ => true | _ => false) = true) (hi : (P.info? ty).map (·.size) = some n) (hs : cs.size = n) : (results fn tmps).run P w = .ok (.agg cs) w := by
  obtain ⟨t, ht⟩ := hg.box
  exact results_cell_row h tmps w g t cs (0, 0) d hp ht hu hd (by rw [hs]; exact hi)
/-- block g may have turned; of what lay all else lies as it lay -/
structure Aside (g : Nat) (w w' : World) : Prop where
  os : w'.os = w.os
  tape : w'.tape = w.tape
  output : w'.output = w.output
  size : w.heap.size ≤ w'.heap.size
  block : ∀ k, k < w.heap.size → k ≠ g → w'.heap[k]? = w.heap[k]?
theorem Aside.of_below {g : Nat} {w w' : World} (h : Below w.heap.size w w') : Aside g w w' := ⟨h.os, h.tape, h.output, h.size, fun k hk _ => h.block k hk⟩
theorem Aside.setCell {g i : Nat} {w W : World} (h : Aside g w W) (v : Value) : Aside g w (W.setCell ⟨g, i, none⟩ v) :=
  ⟨h.os, h.tape, h.output, by simpa using h.size, fun k hk hne => (Below.heap_setCell W ⟨g, i, none⟩ v k hne).trans (h.block k hk hne)⟩
theorem Aside.row {g k : Nat} {w w' : World} {cs : Array Value} (h : Aside g w w') (hr : Row w k cs) (hne : k ≠ g) : Row w' k cs := hr.same (h.block k hr.lt hne)
theorem below_setRow_r {n : Nat} {a W : World} {B : Nat} {ws : Array Value} (h : Below n a W) (hB : n ≤ B) : Below n a (W.setRow B ws) := below_setRow h hB ws
end Go.Proofs.Ytkbaghblchlcnaa
namespace Go.Proofs.Ytkbaghblchlcnaa
open Go.RowKit Go.Shelf
theorem wp_named {P : Program} {c : Code} {Q : Exit → Act → World → Prop} {a : Act} {w : World} (K : World → Prop) (hK : K w) (h : ∀ W, K W → Code.wp P c Q a W) : Code.wp P c Q a w := h w hK
theorem calls_named {P : Program} {f : FuncId} {args : Array Value} {R : Ending → World → Prop} {w : World} (K : World → Prop) (hK : K w) (h : ∀ W, K W → Calls P f args W R) : Calls P f args w R := h w hK
section
variable {w a W : World} {g n : Nat} {v : Value} {p : Addr} {cs : Array Value} {o : Obj} {t : TypeId}
theorem rowAt_new' (h : g = w.heap.size) : rowAt (w.alloc (.cells cs t)) g = cs := by subst h; exact rowAt_new
theorem below_alloc_e (hn : n ≤ W.heap.size) (ha : a.heap.size ≤ W.heap.size) : Below n a (W.alloc o) = Below n a W := propext ⟨fun h => ⟨h.os, h.tape, h.output, ha, fun k hk => by
    rw [← h.block k hk]
    show W.heap[k]? = (W.heap.push o)[k]?
    rw [Array.getElem?_push, if_neg (by omega)]⟩, fun h => h.alloc hn o⟩
theorem below_setCell_e (hp : n ≤ p.block) : Below n a (W.setCell p v) = Below n a W := propext ⟨fun h => ⟨h.os, h.tape, h.output, by simpa using h.size, fun k hk => by
    rw [← h.block k hk]
    exact (Below.heap_setCell W p v k (by omega)).symm⟩, fun h => h.setCell hp v⟩
theorem below_setRow_e {k : Nat} (hp : n ≤ k) : Below n a (W.setRow k cs) = Below n a W := propext ⟨fun h => ⟨h.os, h.tape, h.output, by simpa using h.size, fun i hi => by
    rw [← h.block i hi]
    exact (setRow_other W k i cs (by omega)).symm⟩, fun h => below_setRow h hp cs⟩
theorem isRow_drewN {k : Nat} : isRow (w.drewN k) g = isRow w g := propext ⟨fun h => h, fun h => h⟩
theorem rowAt_drewN {k : Nat} : rowAt (w.drewN k) g = rowAt w g := by unfold rowAt; rfl
theorem below_drewN_e {k : Nat} : Below n a (W.drewN k) = Below n a W := propext ⟨fun h => ⟨h.os, h.tape, h.output, h.size, h.block⟩, fun h => ⟨h.os, h.tape, h.output, h.size, h.block⟩⟩
theorem size_drew_ : w.drew.heap.size = w.heap.size := rfl
theorem row_ne (h : isRow w g) : (g = w.heap.size) = False := propext ⟨fun e => by have := h.lt; omega, False.elim⟩
theorem row_ne' (h : isRow w g) : (w.heap.size = g) = False := propext ⟨fun e => by have := h.lt; omega, False.elim⟩
theorem below_refl_e : Below n w w = True := propext ⟨fun _ => trivial, fun _ => Below.refl _ _⟩
end
end Go.Proofs.Ytkbaghblchlcnaa
namespace Go.Proofs.Ytkbaghblchlcnaa.IAll
open Go.RowKit Go.Shelf Go.Proofs.Ytkbaghblchlcnaa Go.Proofs.YtkbaghblchlcnaaW.PrintWords Go.Proofs.YtkbaghblchlcnaaW.PrintLast Go.Proofs.YtkbaghblchlcnaaW.PrintMore
attribute [local go_sem] Oper.semAt_some cell_row frozen_row isRow_alloc_eq rowAt_alloc rowAt_new rowAt_new' isRow_drew rowAt_drew below_alloc_e below_refl_e below_drew_r isRow_drewN rowAt_drewN below_drewN_e le_add_r
/-- may it be? -/
def ok (s n p g : Int) (h : Bool) (m : Int) (t : Bool) : Prop :=
  (0 ≤ s ∧ s ≤ 3 ∧ 0 ≤ n ∧ n < 16384 ∧ 0 ≤ p ∧ p ≤ 255 ∧ (g = 0 ∨ g = 1)) ∧ (0 ≤ m ∧ m < 1024 ∧ (h = true ∨ m = 0) ∧ (h = false ∨ t = false) ∧ p % 8 = 0) ∧ (n < 8192 ∨ (s < 2 ∧ h = false)) ∧ (n < 1020 ∨ 8192 ≤ n)
instance (s n p g : Int) (h : Bool) (m : Int) (t : Bool) : Decidable (ok s n p g h m t) := by unfold ok; infer_instance
def sB (s n p g : Int) : Bool := decide (0 ≤ s ∧ s ≤ 3 ∧ 0 ≤ n ∧ n < 16384 ∧ 0 ≤ p ∧ p ≤ 255 ∧ (g = 0 ∨ g = 1))
def mB (_s : Int) (h : Bool) (m : Int) (t : Bool) (p : Int) : Bool := decide (0 ≤ m ∧ m < 1024 ∧ (h = true ∨ m = 0) ∧ (h = false ∨ t = false) ∧ p % 8 = 0)
theorem ok_split (s n p g : Int) (h : Bool) (m : Int) (t : Bool) : decide (ok s n p g h m t) = ((sB s n p g && mB s h m t p) && (decide (n < 8192 ∨ (s < 2 ∧ h = false)) && decide (n < 1020 ∨ 8192 ≤ n))) := by
  unfold ok sB mB
  rw [Bool.eq_iff_iff]
  simp only [Bool.and_eq_true, decide_eq_true_eq, and_assoc]
theorem mB_real (s : Int) (h : Bool) (m : Int) (t : Bool) (p : Int) (p0 : 0 ≤ p) (p1 : p ≤ 255) (c1 : 0 ≤ m) (c2 : m < 1024) (c3 : h = true ∨ m = 0) (c4 : h = false ∨ t = false) : mB s h m t p = (p == p % 256 / 8 * 8) := by
  unfold mB
  rw [Bool.eq_iff_iff]
  simp only [decide_eq_true_eq, beq_iff_eq]
  constructor
  · intro ⟨_, _, _, _, q⟩; omega
  · intro q; exact ⟨c1, c2, c3, c4, by omega⟩
theorem lreal_c (p : Int) (w : World) : Calls Try.prog 76 #[.int .i64 p] w fun e w' => e = .returned (.int .i64 (p % 256 / 8 * 8)) ∧ Below w.heap.size w w' :=
  (prio_Real.calls p _ w (by unfold prio_Real.f; rw [and_248])).mono fun _ _ q => ⟨q.1, by
    obtain ⟨k, rfl⟩ := q.2
    exact ⟨rfl, rfl, rfl, Nat.le_refl _, fun _ _ => rfl⟩⟩
set_option maxRecDepth 100000 in
set_option maxHeartbeats 4000000 in
theorem lmay_c (s n p g : Int) (h : Bool) (m : Int) (t : Bool) (w : World) : Calls Try.prog 67 #[.agg #[.int .i64 s, .int .i64 n, .int .i64 p, .int .i64 g, .bool h, .int .i64 m, .bool t]] w fun e w' => e = .returned (.int .i64 (if ok s n p g h m t then 0 else 200)) ∧ Below w.heap.size w w' := by
  obtain ⟨r, hr⟩ : ∃ r : Int, r = if ok s n p g h m t then 0 else 200 := ⟨_, rfl⟩
  rw [← hr]
  have HR := Lib.hid hr
  clear hr
  go_enter Try.func67, Try.ntmps67
  go_upto_region 1 with fail
  go_cut [3] (fun v wc => v = .bool (sB s n p g) ∧ (isRow wc w.heap.size ∧ rowAt wc w.heap.size = #[.int .i64 s, .int .i64 n, .int .i64 p, .int .i64 g, .bool h, .int .i64 m, .bool t]) ∧ Below w.heap.size w wc)
  case first =>
    by_cases c1 : 0 ≤ s
    rotate_left
    · go_wp2_with fail
      go_meet
      exact ⟨by rw [show sB s n p g = false from decide_eq_false (by omega)], ⟨by go_simp, by go_simp⟩, by go_simp⟩
    by_cases c2 : s ≤ 3
    rotate_left
    · go_wp2_with fail
      go_meet
      exact ⟨by rw [show sB s n p g = false from decide_eq_false (by omega)], ⟨by go_simp, by go_simp⟩, by go_simp⟩
    by_cases c3 : 0 ≤ n
    rotate_left
    · go_wp2_with fail
      go_meet
      exact ⟨by rw [show sB s n p g = false from decide_eq_false (by omega)], ⟨by go_simp, by go_simp⟩, by go_simp⟩
    by_cases c4 : n < 16384
    rotate_left
    · go_wp2_with fail
      go_meet
      exact ⟨by rw [show sB s n p g = false from decide_eq_false (by omega)], ⟨by go_simp, by go_simp⟩, by go_simp⟩
    by_cases c5 : 0 ≤ p
    rotate_left
    · go_wp2_with fail
      go_meet
      exact ⟨by rw [show sB s n p g = false from decide_eq_false (by omega)], ⟨by go_simp, by go_simp⟩, by go_simp⟩
    by_cases c6 : p ≤ 255
    rotate_left
    · go_wp2_with fail
      go_meet
      exact ⟨by rw [show sB s n p g = false from decide_eq_false (by omega)], ⟨by go_simp, by go_simp⟩, by go_simp⟩
    by_cases c7 : g = 0
    · go_wp2_with fail
      go_meet
      exact ⟨by rw [show sB s n p g = true from decide_eq_true (by omega)], ⟨by go_simp, by go_simp⟩, by go_simp⟩
    have c7' : (g == 0) = false := by simpa using c7
    by_cases c8 : g = 1
    · go_wp2_with fail
      go_meet
      exact ⟨by rw [show sB s n p g = true from decide_eq_true (by omega)], ⟨by go_simp, by go_simp⟩, by go_simp⟩
    have c8' : (g == 1) = false := by simpa using c8
    go_wp2_with fail
    go_meet
    exact ⟨by rw [show sB s n p g = false from decide_eq_false (by omega)], ⟨by go_simp, by go_simp⟩, by go_simp⟩
  case rest =>
    obtain ⟨rfl, ⟨R, R'⟩, hB⟩ := hcut
    have hp : sB s n p g = true → 0 ≤ p ∧ p ≤ 255 := fun e => by
      unfold sB at e
      have := of_decide_eq_true e
      omega
    generalize hx : sB s n p g = x at *
    go_upto_region 2 with fail
    go_cut [3] (fun v wd => v = .bool (x && mB s h m t p) ∧ (isRow wd w.heap.size ∧ rowAt wd w.heap.size = #[.int .i64 s, .int .i64 n, .int .i64 p, .int .i64 g, .bool h, .int .i64 m, .bool t]) ∧ Below w.heap.size w wd)
    case first =>
      cases x with
      | false =>
        go_region
        go_wp2_with fail
        go_meet
        exact ⟨rfl, ⟨by go_simp, by go_simp⟩, by go_simp⟩
      | true =>
        have hp' := hp rfl
        clear hp hx
        by_cases c1 : 0 ≤ m
        rotate_left
        · skip
          go_region
          go_wp2_with fail
          go_meet
          exact ⟨by rw [show mB s h m t p = false from decide_eq_false (by omega)]; rfl, ⟨by go_simp, by go_simp⟩, by go_simp⟩
        by_cases c2 : m < 1024
        rotate_left
        · skip
          go_region
          go_wp2_with fail
          go_meet
          exact ⟨by rw [show mB s h m t p = false from decide_eq_false (by omega)]; rfl, ⟨by go_simp, by go_simp⟩, by go_simp⟩
        cases h with
        | true =>
          cases t with
          | true =>
            go_region
            go_wp2_with fail
            go_meet
            exact ⟨by rw [show mB s true m true p = false from decide_eq_false (by simp)]; rfl, ⟨by go_simp, by go_simp⟩, by go_simp⟩
          | false =>
            have hz := hB.size
            (first | go_region_with (go_at_call 76; refine (lreal_c p _).mono ?_; rintro e w1 ⟨rfl, hb⟩; obtain ⟨Q, Q'⟩ := Row.step (show isRow wc.drew _ from R) (show rowAt wc.drew _ = _ from R') hb) | fail)
            all_goals
              go_wp2_with fail
              go_meet
              exact ⟨by rw [mB_real s true m false p hp'.1 hp'.2 c1 c2 (.inl rfl) (.inr rfl)]; rfl, ⟨Q, Q'⟩, (below_drew0 hB).trans (hb.mono hz)⟩
        | false =>
          by_cases c3 : m = 0
          · subst c3
            have hz := hB.size
            (first | go_region_with (go_at_call 76; refine (lreal_c p _).mono ?_; rintro e w1 ⟨rfl, hb⟩; obtain ⟨Q, Q'⟩ := Row.step (show isRow wc.drew _ from R) (show rowAt wc.drew _ = _ from R') hb) | fail)
            all_goals
              go_wp2_with fail
              go_meet
              exact ⟨by rw [mB_real s false 0 t p hp'.1 hp'.2 c1 c2 (.inr rfl) (.inl rfl)]; rfl, ⟨Q, Q'⟩, (below_drew0 hB).trans (hb.mono hz)⟩
          · have c3' : (m == 0) = false := by simpa using c3
            go_region
            go_wp2_with fail
            go_meet
            exact ⟨by rw [show mB s false m t p = false from decide_eq_false (by simp [c3])]; rfl, ⟨by go_simp, by go_simp⟩, by go_simp⟩
    case rest =>
      obtain ⟨rfl, ⟨R, R'⟩, hB⟩ := hcut
      have hok : decide (ok s n p g h m t) = ((x && mB s h m t p) && (decide (n < 8192 ∨ (s < 2 ∧ h = false)) && decide (n < 1020 ∨ 8192 ≤ n))) := by
        rw [← hx, ok_split]
      generalize (x && mB s h m t p) = y at *
      clear hx hp
      cases y with
      | false =>
        have hno : ¬ ok s n p g h m t := of_decide_eq_false hok
        have hr : r = 200 := by rw [HR.out, if_neg hno]
        subst hr
        clear hok
        by_cases c1 : 8192 ≤ n
        · go_wp2
          go_ret
          exact ⟨rfl, by go_simp⟩
        · go_wp2
          go_ret
          exact ⟨rfl, by go_simp⟩
      | true =>
        rw [Bool.true_and] at hok
        by_cases c1 : 8192 ≤ n
        · have c4 : ¬ n < 8192 := by omega
          have c5 : 1020 ≤ n := by omega
          by_cases c2 : s < 2
          · cases h with
            | false =>
              rw [decide_eq_true (show n < 8192 ∨ (s < 2 ∧ false = false) from .inr ⟨c2, rfl⟩), decide_eq_true (show n < 1020 ∨ 8192 ≤ n from .inr c1)] at hok
              have hr : r = 0 := by rw [HR.out, if_pos (of_decide_eq_true hok)]
              subst hr
              clear hok
              go_wp2
              go_ret
              exact ⟨rfl, by go_simp⟩
            | true =>
              rw [decide_eq_false (show ¬ (n < 8192 ∨ (s < 2 ∧ true = false)) by simp; omega)] at hok
              have hr : r = 200 := by rw [HR.out, if_neg (of_decide_eq_false hok)]
              subst hr
              clear hok
              go_wp2
              go_ret
              exact ⟨rfl, by go_simp⟩
          · rw [decide_eq_false (show ¬ (n < 8192 ∨ (s < 2 ∧ h = false)) by omega)] at hok
            have hr : r = 200 := by rw [HR.out, if_neg (of_decide_eq_false hok)]
            subst hr
            clear hok
            go_wp2
            go_ret
            exact ⟨rfl, by go_simp⟩
        · have c4 : n < 8192 := by omega
          by_cases c2 : 1020 ≤ n
          · rw [decide_eq_false (show ¬ (n < 1020 ∨ 8192 ≤ n) by omega), Bool.and_false] at hok
            have hr : r = 200 := by rw [HR.out, if_neg (of_decide_eq_false hok)]
            subst hr
            clear hok
            go_wp2
            go_ret
            exact ⟨rfl, by go_simp⟩
          · rw [decide_eq_true (show n < 8192 ∨ (s < 2 ∧ h = false) from .inl c4), decide_eq_true (show n < 1020 ∨ 8192 ≤ n by omega)] at hok
            have hr : r = 0 := by rw [HR.out, if_pos (of_decide_eq_true hok)]
            subst hr
            clear hok
            go_wp2
            go_ret
            exact ⟨rfl, by go_simp⟩
def lr_May.f (_ : Nat) (s n p g : Int) (h : Bool) (m : Int) (t : Bool) : Option Int := some (if ok s n p g h m t then 0 else 200)
theorem lr_May.calls (k : Nat) (s n p g : Int) (h : Bool) (m : Int) (t : Bool) (r : Int) (w : World) (e : lr_May.f k s n p g h m t = some r) :
    Calls Try.prog 67 #[.agg #[.int .i64 s, .int .i64 n, .int .i64 p, .int .i64 g, .bool h, .int .i64 m, .bool t]] w fun e w' => e = .returned (.int .i64 r) ∧ Below w.heap.size w w' := by
  obtain rfl := Option.some.inj e
  exact lmay_c s n p g h m t w
end Go.Proofs.Ytkbaghblchlcnaa.IAll
