/- Contracts by hand of layer 8: the ladder's iterators and the functions that hold a loop over one, or that index an array. -/
import Derived.Test.YtpjenhojldcmiaaIt
import Derived.Test.YtpjenhojldcmiaaBits
import Derived.Test.YtpjenhojldcmiaaProg
import Derived.Maps.AppendAt
import Derived.Outline
namespace Go.Proofs.Ytpjenhojldcmiaa
open Go.RowKit Go.Shelf
attribute [local go_sem] Oper.semAt_some


/-- the bit of place i: priority 8 (i / 2), group i % 2 -/
def rb (a b : Int) (i : Nat) : Bool := if i % 2 = 0 then tb a (i / 2) else tb b (i / 2)
def cell (a b : Int) (i : Nat) : List (Int × Int) := if rb a b i then [(8 * (i / 2 : Nat), (i % 2 : Nat))] else []
def allUpto (a b : Int) : Nat → List (Int × Int)
  | 0 => []
  | n + 1 => allUpto a b n ++ cell a b n
def allL (a b : Int) : List (Int × Int) := allUpto a b 64
theorem allUpto_mono (a b : Int) (n d : Nat) : ∃ post, allUpto a b (n + d) = allUpto a b n ++ post := by
  induction d with
  | zero => exact ⟨[], by simp⟩
  | succ d ih =>
    obtain ⟨post, h⟩ := ih
    exact ⟨post ++ cell a b (n + d), by rw [show n + (d + 1) = (n + d) + 1 by omega, allUpto, h, List.append_assoc]⟩
theorem allL_at (a b : Int) (n : Nat) (hn : n < 64) (h : rb a b n = true) : ∃ post, allL a b = allUpto a b n ++ ((8 * (n / 2 : Nat) : Int), ((n % 2 : Nat) : Int)) :: post := by
  obtain ⟨post, hp⟩ := allUpto_mono a b (n + 1) (63 - n)
  rw [show n + 1 + (63 - n) = 64 by omega] at hp
  exact ⟨post, by rw [allL, hp, allUpto, cell, if_pos h]; simp⟩

theorem step0 (a b : Int) (k : Nat) : allUpto a b (2 * k + 1) = allUpto a b (2 * k) ++ if tb a k then [((8 * k : Int), (0 : Int))] else [] := by
  have h : rb a b (2 * k) = tb a k := by rw [rb, if_pos (by omega), show 2 * k / 2 = k by omega]
  rw [allUpto, cell, h, show 2 * k / 2 = k by omega, show 2 * k % 2 = 0 by omega]; rfl
theorem step1 (a b : Int) (k : Nat) : allUpto a b (2 * (k + 1)) = allUpto a b (2 * k + 1) ++ if tb b k then [((8 * k : Int), (1 : Int))] else [] := by
  have h : rb a b (2 * k + 1) = tb b k := by rw [rb, if_neg (by omega), show (2 * k + 1) / 2 = k by omega]
  rw [show 2 * (k + 1) = (2 * k + 1) + 1 by omega, allUpto, cell, h, show (2 * k + 1) / 2 = k by omega, show (2 * k + 1) % 2 = 1 by omega]; rfl
theorem at0 (a b : Int) (k : Nat) (hk : k < 32) (h : tb a k = true) : ∃ post, allL a b = allUpto a b (2 * k) ++ ((8 * k : Int), (0 : Int)) :: post := by
  obtain ⟨post, hp⟩ := allL_at a b (2 * k) (by omega) (by rw [rb, if_pos (by omega), show 2 * k / 2 = k by omega]; exact h)
  rw [show 2 * k / 2 = k by omega, show 2 * k % 2 = 0 by omega] at hp
  exact ⟨post, hp⟩
theorem at1 (a b : Int) (k : Nat) (hk : k < 32) (h : tb b k = true) : ∃ post, allL a b = allUpto a b (2 * k + 1) ++ ((8 * k : Int), (1 : Int)) :: post := by
  obtain ⟨post, hp⟩ := allL_at a b (2 * k + 1) (by omega) (by rw [rb, if_neg (by omega), show (2 * k + 1) / 2 = k by omega]; exact h)
  rw [show (2 * k + 1) / 2 = k by omega, show (2 * k + 1) % 2 = 1 by omega] at hp
  exact ⟨post, hp⟩

theorem All_c (a b : Int) (w : World) : Calls Try.prog 49 #[(.agg #[.int .u32 a, .int .u32 b])] w fun e w' => e = .returned (.func (.func 55) #[] #[.pointer (some ⟨w.heap.size, 0, none⟩)]) ∧ w.alloc (.cells #[.int .u32 a, .int .u32 b] 27) = w' := by
  go_enter Try.func49, Try.ntmps49
  go_wp2
  go_ret
  exact ⟨rfl, rfl⟩

set_option maxRecDepth 100000 in
set_option maxHeartbeats 1000000 in
theorem all_iter (Pv : Obj → Prop) (S : Nat → Prop) (T : TypeId → Prop) (a b : Int) (Bm : Nat) (W0 : World) (hS : S Bm) (hc : BoxN W0 Bm 27 #[.int .u32 a, .int .u32 b]) :
    Iter Pv Try.prog 55 #[.pointer (some ⟨Bm, 0, none⟩)] (fun x : Int × Int => #[.int .i64 x.1, .int .i64 x.2]) (KeepsS S T) (allL a b) W0 := by
  intro l J Jx W hW hJ hJx hY h0
  have hc1 : BoxN W Bm 27 #[.int .u32 a, .int .u32 b] := (hW.block Bm hc.lt).trans hc
  clear hc
  refine callsIn_of_wp Try.func55 rfl trivial ?_ rfl
  simp only [Try.ntmps55, List.size_toArray, List.length_cons, List.length_nil, Nat.reduceAdd, Nat.reduceSub, Array.replicate_succ, Array.replicate_zero, List.push_toArray, List.append_toArray, List.nil_append, List.cons_append]
  gi_wp2
  gi_loopw [5] (fun p wr => ∃ k : Nat, k ≤ 32 ∧ p = .int .i64 k ∧ J (allUpto a b (2 * k)) wr ∧ KeepsS S T W wr) (fun p _ => 32 - (intOf p).toNat)
  case atStart => exact ⟨0, by omega, rfl, h0, KeepsS.refl _ _ _⟩
  case round =>
    obtain ⟨k, hk, rfl, hj, hB⟩ := hrel
    by_cases hlt : k < 32
    · have hd : decide ((k : Int) < 32) = true := decide_eq_true (by omega)
      gi_wp2
      gi_loopw [8] (fun p wx => ∃ g : Int, 0 ≤ g ∧ g ≤ 2 ∧ p = .int .i64 g ∧ J (if g = 2 then allUpto a b (2 * (k + 1)) else if g = 1 then allUpto a b (2 * k + 1) else allUpto a b (2 * k)) wx ∧ KeepsS S T W wx) (fun p _ => 2 - (intOf p).toNat)
      case atStart => exact ⟨0, by omega, by omega, rfl, hj, hB⟩
      case round =>
        clear hj hB
        obtain ⟨g, hg0, hg, rfl, hj, hB⟩ := hrel
        have hx := hB.boxN hS hc1
        obtain rfl | rfl | rfl : g = 0 ∨ g = 1 ∨ g = 2 := by omega
        · simp only [show ¬ ((0 : Int) = 2) by omega, show ¬ ((0 : Int) = 1) by omega, if_false] at hj
          have hcell := hx.cell (i := 0) rfl
          have hs := step0 a b k
          by_cases ht : tb a k = true
          · have ht1 : (bits .and .u32 (a / 2 ^ k) 1 == 1) = true := by rw [bit_test_w]; exact ht
            rw [if_pos ht] at hs
            have HS := Lib.hid hs
            obtain ⟨post, hxs⟩ := at0 a b k hlt ht
            obtain ⟨fn, tmps, assign, body, hy, hR⟩ := hY _ _ _ wr hxs hj
            have HX := Lib.hid hxs
            clear hs hxs ht hg0 hg
            gi_wp2
            refine hR.mono ?_
            rintro e W3 ⟨(⟨rfl, hJ3, hk3⟩ | ⟨rfl, hJx3⟩), -⟩
            · gi_wp2
              go_roundw
              case rel => exact ⟨1, by omega, by omega, rfl, by simp only [show ¬ ((1 : Int) = 2) by omega, if_false, if_true]; rw [HS.out]; exact hJ3, hB.trans hk3⟩
              case measure => simp [intOf]
            · gi_wp2
              refine bodyPost_ret (results_none rfl _ _ _) rfl ?_
              exact ⟨⟨_, rfl⟩, .inr ⟨_, _, _, HX.out, hJx3⟩⟩
          · have ht1 : (bits .and .u32 (a / 2 ^ k) 1 == 1) = false := by rw [bit_test_w]; simpa using ht
            rw [if_neg ht, List.append_nil] at hs
            have HS := Lib.hid hs
            clear hs ht hg0 hg
            gi_wp2
            go_roundw
            case rel => exact ⟨1, by omega, by omega, rfl, by simp only [show ¬ ((1 : Int) = 2) by omega, if_false, if_true]; rw [HS.out]; exact hj, hB⟩
            case measure => simp [intOf]
        · simp only [show ¬ ((1 : Int) = 2) by omega, if_false, if_true] at hj
          have hcell := hx.cell (i := 1) rfl
          have hs := step1 a b k
          by_cases ht : tb b k = true
          · have ht1 : (bits .and .u32 (b / 2 ^ k) 1 == 1) = true := by rw [bit_test_w]; exact ht
            rw [if_pos ht] at hs
            have HS := Lib.hid hs
            obtain ⟨post, hxs⟩ := at1 a b k hlt ht
            obtain ⟨fn, tmps, assign, body, hy, hR⟩ := hY _ _ _ wr hxs hj
            have HX := Lib.hid hxs
            clear hs hxs ht hg0 hg
            gi_wp2
            refine hR.mono ?_
            rintro e W3 ⟨(⟨rfl, hJ3, hk3⟩ | ⟨rfl, hJx3⟩), -⟩
            · gi_wp2
              go_roundw
              case rel => exact ⟨2, by omega, by omega, rfl, by simp only [if_true]; rw [HS.out]; exact hJ3, hB.trans hk3⟩
              case measure => simp [intOf]
            · gi_wp2
              refine bodyPost_ret (results_none rfl _ _ _) rfl ?_
              exact ⟨⟨_, rfl⟩, .inr ⟨_, _, _, HX.out, hJx3⟩⟩
          · have ht1 : (bits .and .u32 (b / 2 ^ k) 1 == 1) = false := by rw [bit_test_w]; simpa using ht
            rw [if_neg ht, List.append_nil] at hs
            have HS := Lib.hid hs
            clear hs ht hg0 hg
            gi_wp2
            go_roundw
            case rel => exact ⟨2, by omega, by omega, rfl, by simp only [if_true]; rw [HS.out]; exact hj, hB⟩
            case measure => simp [intOf]
        · simp only [if_true] at hj
          clear hg0 hg
          gi_wp2
          go_roundw
          case rel => exact ⟨k + 1, by omega, congrArg (Value.int .i64) (by omega), hj, hB⟩
          case measure => simp [intOf]; omega
    · obtain rfl : k = 32 := by omega
      gi_wp2
      go_end0
      exact ⟨⟨_, rfl⟩, .inl hj⟩
end Go.Proofs.Ytpjenhojldcmiaa
