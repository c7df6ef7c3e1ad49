/- Contracts by hand of layer 20: the iterator over the places of those that are let in. -/
import Derived.Test.YtbhideabefjadaaIt
import Derived.Test.YtbhideabefjadaaSets
import Derived.Test.YtbhideabefjadaaBits
import Derived.Test.YtbhideabefjadaaIAllx0
import Derived.WalkSmall
import Derived.Laws.EntriesVeiled
namespace Go.Proofs.Ytbhideabefjadaa
open Go.RowKit Go.Shelf Go.Proofs.YtbhideabefjadaaW.PrintWords Go.Proofs.YtbhideabefjadaaW.PrintMore Go.Proofs.Ytbhideabefjadaa.IAll
attribute [local go_sem] Oper.semAt_some
/-- a list register's cells -/
def enc (x : S24) : Array Value := #[.int .i64 x.f0, .int .i64 x.f1, .int .i64 x.f2, .int .i64 x.f3, .bool x.f4, .int .i64 x.f5, .bool x.f6]
/-- the places below n of those that are let in -/
def pl (p : S24 → Bool) (xs : List S24) : Nat → List Int
  | 0 => []
  | n + 1 => pl p xs n ++ if p (rd_T24 xs n) then [(n : Int)] else []
def places (p : S24 → Bool) (xs : List S24) : List Int := pl p xs xs.length
theorem pl_mono (p : S24 → Bool) (xs : List S24) (n d : Nat) : ∃ post, pl p xs (n + d) = pl p xs n ++ post := by
  induction d with
  | zero => exact ⟨[], by simp⟩
  | succ d ih =>
    obtain ⟨post, h⟩ := ih
    exact ⟨post ++ _, by rw [show n + (d + 1) = (n + d) + 1 by omega, pl, h, List.append_assoc]⟩
theorem places_at (p : S24 → Bool) (xs : List S24) (n : Nat) (hn : n < xs.length) (h : p (rd_T24 xs n) = true) : ∃ post, places p xs = pl p xs n ++ (n : Int) :: post := by
  obtain ⟨post, hp⟩ := pl_mono p xs (n + 1) (xs.length - (n + 1))
  rw [show n + 1 + (xs.length - (n + 1)) = xs.length by omega] at hp
  exact ⟨post, by rw [places, hp, pl, if_pos h]; simp⟩
theorem pl_length (p : S24 → Bool) (xs : List S24) (n : Nat) : (pl p xs n).length ≤ n := by
  induction n with
  | zero => simp [pl]
  | succ n ih => rw [pl, List.length_append]; split <;> simp <;> omega
theorem pl_mem (p : S24 → Bool) (xs : List S24) (n : Nat) : ∀ x ∈ pl p xs n, 0 ≤ x ∧ x < n ∧ p (rd_T24 xs x) = true := by
  induction n with
  | zero => simp [pl]
  | succ n ih =>
    intro x hx
    rw [pl, List.mem_append] at hx
    rcases hx with hx | hx
    · have := ih x hx; exact ⟨this.1, by omega, this.2.2⟩
    · split at hx
      · rename_i h
        simp at hx; subst hx; exact ⟨by omega, by omega, h⟩
      · simp at hx
/-- a test of a list register, as a function value: what it answers -/
def InOk (S : Nat → Prop) (T : TypeId → Prop) (gi : Nat) (li : Array Value) (p : S24 → Bool) (W0 : World) : Prop :=
  ∀ (x : S24) (W : World), KeepsS S T W0 W → CallsIn Fence.wide 0 Try.prog gi (#[.agg (enc x)] ++ li) W fun e w' => e = .returned (.bool (p x)) ∧ Below W.heap.size W w'
theorem free_in (S : Nat → Prop) (T : TypeId → Prop) (W0 : World) : InOk S T 28 #[] (fun x => x.f0 == 0) W0 := by
  intro x W _
  refine in_of_calls (show Calls Try.prog 28 #[.agg #[.int .i64 x.f0, .int .i64 x.f1, .int .i64 x.f2, .int .i64 x.f3, .bool x.f4, .int .i64 x.f5, .bool x.f6]] W _ from ?_)
  go_enter Try.func28, Try.ntmps28
  go_wp2
  go_ret
  exact ⟨rfl, (Below.refl _ _).alloc (Nat.le_refl _) _⟩
theorem waits_in (S : Nat → Prop) (T : TypeId → Prop) (W0 : World) : InOk S T 29 #[] (fun x => x.f0 == 1) W0 := by
  intro x W _
  refine in_of_calls (show Calls Try.prog 29 #[.agg #[.int .i64 x.f0, .int .i64 x.f1, .int .i64 x.f2, .int .i64 x.f3, .bool x.f4, .int .i64 x.f5, .bool x.f6]] W _ from ?_)
  go_enter Try.func29, Try.ntmps29
  go_wp2
  go_ret
  exact ⟨rfl, (Below.refl _ _).alloc (Nat.le_refl _) _⟩
set_option maxRecDepth 100000 in
set_option maxHeartbeats 1000000 in
theorem where_iter (Pv : Obj → Prop) (S : Nat → Prop) (T : TypeId → Prop) (p : S24 → Bool) (gi : Nat) (li : Array Value) (A : Option Addr) (c : Nat) (xs : List S24) (Bl Bi : Nat) (W0 : World)
    (hS : ∀ k, S k → k < W0.heap.size) (hSl : S Bl) (hSi : S Bi) (hSA : 0 < xs.length → ∀ ad, A = some ad → S ad.block) (hxs : xs.length ≤ 9223372036854775807)
    (hl : Boxed W0 Bl 31 (.slice A xs.length c)) (hi : Boxed W0 Bi 60 (.func (.func gi) #[] li)) (hC : Kd.C k24 W0 A xs.length xs) (hin : InOk S T gi li p W0)
    (hen : ∀ args w, (callFunc gi args).run Try.prog w = .ok (.enter gi args) w) :
    Iter Pv Try.prog 35 #[.pointer (some ⟨Bl, 0, none⟩), .pointer (some ⟨Bi, 0, none⟩)] (fun x : Int => #[.int .i64 x]) (KeepsS S T) (places p xs) W0 := by
  intro l J Jx W hW hJ hJx hY h0
  have hK0 : KeepsS S T W0 W := KeepsS.new hW hS
  have hl1 : Boxed W Bl 31 (.slice A xs.length c) := hK0.boxed hSl hl
  have hcl := hl1.cell
  refine callsIn_of_wp Try.func35 rfl trivial ?_ rfl
  simp only [Try.ntmps35, List.size_toArray, List.length_cons, List.length_nil, Nat.reduceAdd, Nat.reduceSub, Array.replicate_succ, Array.replicate_zero, List.push_toArray, List.append_toArray, List.nil_append, List.cons_append]
  gi_wp2
  gi_loopw [8] (fun q wr => ∃ k : Nat, k ≤ xs.length ∧ q = .int .i64 k ∧ J (pl p xs k) wr ∧ KeepsS S T W0 wr) (fun q _ => xs.length - (intOf q).toNat)
  case atStart => exact ⟨0, by omega, rfl, h0, hK0⟩
  case round =>
    obtain ⟨k, hk, rfl, hj, hB⟩ := hrel
    by_cases hlt : k < xs.length
    · have hd : decide ((k : Int) < (xs.length : Int)) = true := decide_eq_true (by omega)
      have hd1 : decide (k < xs.length) = true := decide_eq_true (by omega)
      obtain ⟨ad, rfl, e0, e1, e2, e3, e4, e5, e6⟩ := at_T24 hC (k : Int) (by omega) (by omega)
      have hi2 : ∀ o, (wr.alloc o).cell? ⟨Bi, 0, none⟩ = some (.func (.func gi) #[] li) := fun o => ((hB.boxed hSi hi).alloc o).cell
      have hSk : S (ad.add (k * 7)).block := by
        have := hSA (by omega) ad rfl
        unfold Addr.add; split <;> exact this
      simp only [Int.toNat_natCast] at e0 e1 e2 e3 e4 e5 e6
      rw [← hB.cell (a := ad.add (k * 7)) hSk] at e0
      rw [← hB.cell (a := ⟨(ad.add (k * 7)).block, (ad.add (k * 7)).off + 1, none⟩) hSk] at e1
      rw [← hB.cell (a := ⟨(ad.add (k * 7)).block, (ad.add (k * 7)).off + 2, none⟩) hSk] at e2
      rw [← hB.cell (a := ⟨(ad.add (k * 7)).block, (ad.add (k * 7)).off + 3, none⟩) hSk] at e3
      rw [← hB.cell (a := ⟨(ad.add (k * 7)).block, (ad.add (k * 7)).off + 4, none⟩) hSk] at e4
      rw [← hB.cell (a := ⟨(ad.add (k * 7)).block, (ad.add (k * 7)).off + 5, none⟩) hSk] at e5
      rw [← hB.cell (a := ⟨(ad.add (k * 7)).block, (ad.add (k * 7)).off + 6, none⟩) hSk] at e6
      have hB1 : ∀ o, KeepsS S T W0 (wr.alloc o) := fun o => hB.trans (KeepsS.new ((Below.refl _ _).alloc (Nat.le_refl _) _) (fun k hk => Nat.lt_of_lt_of_le (hS k hk) hB.size))
      have hIn := hin (rd_T24 xs k) (wr.alloc (.cells (enc (rd_T24 xs k)) 24)) (hB1 _)
      have HIn := Lib.hid hIn
      clear hIn
      cases hp : p (rd_T24 xs k) with
      | true =>
        have hs : pl p xs (k + 1) = pl p xs k ++ [(k : Int)] := by rw [pl, if_pos hp]
        have HS := Lib.hid hs
        obtain ⟨post, hx⟩ := places_at p xs k hlt hp
        have HX := Lib.hid hx
        rw [hp] at HIn
        clear hs hx hp
        gi_wp2_with (refine HIn.out.mono ?_; rintro e W3 ⟨rfl, hb3⟩; have hb4 := Lib.hid (below_of_alloc hb3); clear hb3; obtain ⟨fn, tmps, assign, body, hy, hR⟩ := hY _ _ _ W3 HX.out (hJ.under hj hb4.out))
        refine hR.mono ?_
        rintro e W5 ⟨(⟨rfl, hJ3, hk3⟩ | ⟨rfl, hJx3⟩), -⟩
        · gi_wp2
          go_roundw
          case rel => exact ⟨k + 1, by omega, congrArg (Value.int .i64) (by omega), by rw [HS.out]; exact hJ3, (hB.trans (KeepsS.new hb4.out (fun k hk => Nat.lt_of_lt_of_le (hS k hk) hB.size))).trans hk3⟩
          case measure => simp [intOf]; omega
        · gi_wp2
          refine bodyPost_ret (results_none rfl _ _ _) rfl ?_
          exact ⟨⟨_, rfl⟩, .inr ⟨_, _, _, HX.out, hJx3⟩⟩
      | false =>
        have hs : pl p xs (k + 1) = pl p xs k := by rw [pl, if_neg (by rw [hp]; simp), List.append_nil]
        have HS := Lib.hid hs
        rw [hp] at HIn
        clear hs hp
        gi_wp2_with (refine HIn.out.mono ?_; rintro e W3 ⟨rfl, hb3⟩; have hb4 := Lib.hid (below_of_alloc hb3); clear hb3)
        go_roundw
        case rel => exact ⟨k + 1, by omega, congrArg (Value.int .i64) (by omega), by rw [HS.out]; exact hJ.under hj hb4.out, hB.trans (KeepsS.new hb4.out (fun k hk => Nat.lt_of_lt_of_le (hS k hk) hB.size))⟩
        case measure => simp [intOf]; omega
    · obtain rfl : k = xs.length := by omega
      have hd : decide ((xs.length : Int) < (xs.length : Int)) = false := decide_eq_false (by omega)
      gi_wp2
      go_end0
      exact ⟨⟨_, rfl⟩, .inl hj⟩
end Go.Proofs.Ytbhideabefjadaa
