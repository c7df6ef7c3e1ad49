/- Contract by hand: how many bits of a word are set (its table is a text of 256 bytes). -/
import Derived.Test.YtpjenhojldcmiaaIt
import Derived.Test.YtpjenhojldcmiaaBits
import Derived.Test.YtpjenhojldcmiaaProg
import Derived.Test.YtpjenhojldcmiaaWWords
namespace Go.Proofs.Ytpjenhojldcmiaa
open Go.RowKit Go.Shelf Go.Proofs.YtpjenhojldcmiaaW.PrintWords
attribute [local go_sem] Oper.semAt_some

def popT : ByteArray := { data := (((0 :: 1 :: 1 :: 2 :: 1 :: 2 :: 2 :: 3 :: 1 :: 2 :: 2 :: 3 :: 2 :: 3 :: 3 :: 4 :: 1 :: 2 :: 2 :: 3 :: 2 :: 3 :: 3 :: 4 :: 2 :: 3 :: 3 :: 4 :: 3 :: 4 :: 4 :: 5 :: 1 :: 2 :: 2 :: 3 :: 2 :: 3 :: 3 :: 4 :: 2 :: 3 :: 3 :: 4 :: 3 :: 4 :: 4 :: 5 :: 2 :: 3 :: 3 :: 4 :: 3 :: 4 :: 4 :: 5 :: 3 :: 4 :: 4 :: 5 :: 4 :: 5 :: 5 :: 6 :: []).append (1 :: 2 :: 2 :: 3 :: 2 :: 3 :: 3 :: 4 :: 2 :: 3 :: 3 :: 4 :: 3 :: 4 :: 4 :: 5 :: 2 :: 3 :: 3 :: 4 :: 3 :: 4 :: 4 :: 5 :: 3 :: 4 :: 4 :: 5 :: 4 :: 5 :: 5 :: 6 :: 2 :: 3 :: 3 :: 4 :: 3 :: 4 :: 4 :: 5 :: 3 :: 4 :: 4 :: 5 :: 4 :: 5 :: 5 :: 6 :: 3 :: 4 :: 4 :: 5 :: 4 :: 5 :: 5 :: 6 :: 4 :: 5 :: 5 :: 6 :: 5 :: 6 :: 6 :: 7 :: [])).append ((1 :: 2 :: 2 :: 3 :: 2 :: 3 :: 3 :: 4 :: 2 :: 3 :: 3 :: 4 :: 3 :: 4 :: 4 :: 5 :: 2 :: 3 :: 3 :: 4 :: 3 :: 4 :: 4 :: 5 :: 3 :: 4 :: 4 :: 5 :: 4 :: 5 :: 5 :: 6 :: 2 :: 3 :: 3 :: 4 :: 3 :: 4 :: 4 :: 5 :: 3 :: 4 :: 4 :: 5 :: 4 :: 5 :: 5 :: 6 :: 3 :: 4 :: 4 :: 5 :: 4 :: 5 :: 5 :: 6 :: 4 :: 5 :: 5 :: 6 :: 5 :: 6 :: 6 :: 7 :: []).append (2 :: 3 :: 3 :: 4 :: 3 :: 4 :: 4 :: 5 :: 3 :: 4 :: 4 :: 5 :: 4 :: 5 :: 5 :: 6 :: 3 :: 4 :: 4 :: 5 :: 4 :: 5 :: 5 :: 6 :: 4 :: 5 :: 5 :: 6 :: 5 :: 6 :: 6 :: 7 :: 3 :: 4 :: 4 :: 5 :: 4 :: 5 :: 5 :: 6 :: 4 :: 5 :: 5 :: 6 :: 5 :: 6 :: 6 :: 7 :: 4 :: 5 :: 5 :: 6 :: 5 :: 6 :: 6 :: 7 :: 5 :: 6 :: 6 :: 7 :: 6 :: 7 :: 7 :: 8 :: []))).toArray }
/-- how many of the lowest n bits are set -/
def pop (x : Int) : Nat → Nat
  | 0 => 0
  | n + 1 => pop x n + if tb x n then 1 else 0
theorem popT_size : popT.size = 256 := by kernel_rfl
set_option maxRecDepth 100000 in
theorem popT_nat : ∀ i : Fin 256, bt popT (i.val : Int) = (pop (i.val : Int) 8 : Int) := by decide +kernel
theorem popT_at (i : Int) (h0 : 0 ≤ i) (h1 : i < 256) : bt popT i = (pop i 8 : Int) := by
  have := popT_nat ⟨i.toNat, by omega⟩
  simpa [Int.toNat_of_nonneg h0] using this

theorem pop_le (x : Int) (n : Nat) : pop x n ≤ n := by
  induction n with
  | zero => exact Nat.le_refl _
  | succ n ih => rw [pop]; split <;> omega
theorem pop_add (x : Int) (m n : Nat) : pop x (m + n) = pop x m + pop (x / 2 ^ m) n := by
  induction n with
  | zero => rfl
  | succ n ih => rw [← Nat.add_assoc, pop, pop, ih, tb_div]; omega
theorem pop_mod (x : Int) (m : Nat) : ∀ n : Nat, n ≤ m → pop (x % 2 ^ m) n = pop x n
  | 0, _ => rfl
  | n + 1, h => by rw [pop, pop, pop_mod x m n (by omega), tb_mod]; simp [show n < m by omega]
theorem pop_bytes (x : Int) : pop x 32 = pop (x / 16777216) 8 + pop (x / 65536 % 256) 8 + pop (x / 256 % 256) 8 + pop (x % 256) 8 := by
  have a1 := pop_add x 8 24
  have a2 := pop_add (x / 2 ^ 8) 8 16
  have a3 := pop_add (x / 2 ^ 8 / 2 ^ 8) 8 8
  have b0 := pop_mod x 8 8 (Nat.le_refl _)
  have b1 := pop_mod (x / 2 ^ 8) 8 8 (Nat.le_refl _)
  have b2 := pop_mod (x / 2 ^ 8 / 2 ^ 8) 8 8 (Nat.le_refl _)
  have e1 : x / 2 ^ 8 = x / 256 := by rfl
  have e2 : x / 2 ^ 8 / 2 ^ 8 = x / 65536 := by rw [show (2 : Int) ^ 8 = 256 by rfl]; omega
  have e3 : x / 2 ^ 8 / 2 ^ 8 / 2 ^ 8 = x / 16777216 := by rw [show (2 : Int) ^ 8 = 256 by rfl]; omega
  rw [e3] at a3; rw [e2] at a2 a3 b2; rw [e1] at a1 a2 b1
  have c0 : x % 2 ^ 8 = x % 256 := rfl
  have c1 : x / 256 % 2 ^ 8 = x / 256 % 256 := rfl
  have c2 : x / 65536 % 2 ^ 8 = x / 65536 % 256 := rfl
  rw [c0] at b0; rw [c1] at b1; rw [c2] at b2
  have a1' : pop x 32 = pop x 8 + pop (x / 256) 24 := a1
  have a2' : pop (x / 256) 24 = pop (x / 256) 8 + pop (x / 65536) 16 := a2
  have a3' : pop (x / 65536) 16 = pop (x / 65536) 8 + pop (x / 16777216) 8 := a3
  omega

set_option maxRecDepth 100000 in
theorem OnesCount32_c (x : Int) (h0 : 0 ≤ x) (h1 : x < 4294967296) (w : World) : Calls Try.prog 48 #[.int .u32 x] w fun e w' => e = .returned (.int .i64 (pop x 32 : Int)) ∧ Below w.heap.size w w' := by
  have i1 : bits .and .u32 (x / 65536) 255 = x / 65536 % 256 := and_low_w _ 8 (by decide)
  have i2 : bits .and .u32 (x / 256) 255 = x / 256 % 256 := and_low_w _ 8 (by decide)
  have i3 : bits .and .u32 x 255 = x % 256 := and_low_w _ 8 (by decide)
  go_enter Try.func48, Try.ntmps48
  generalize hT : ({ data := (((0 :: 1 :: 1 :: 2 :: 1 :: 2 :: 2 :: 3 :: 1 :: 2 :: 2 :: 3 :: 2 :: 3 :: 3 :: 4 :: 1 :: 2 :: 2 :: 3 :: 2 :: 3 :: 3 :: 4 :: 2 :: 3 :: 3 :: 4 :: 3 :: 4 :: 4 :: 5 :: 1 :: 2 :: 2 :: 3 :: 2 :: 3 :: 3 :: 4 :: 2 :: 3 :: 3 :: 4 :: 3 :: 4 :: 4 :: 5 :: 2 :: 3 :: 3 :: 4 :: 3 :: 4 :: 4 :: 5 :: 3 :: 4 :: 4 :: 5 :: 4 :: 5 :: 5 :: 6 :: []).append (1 :: 2 :: 2 :: 3 :: 2 :: 3 :: 3 :: 4 :: 2 :: 3 :: 3 :: 4 :: 3 :: 4 :: 4 :: 5 :: 2 :: 3 :: 3 :: 4 :: 3 :: 4 :: 4 :: 5 :: 3 :: 4 :: 4 :: 5 :: 4 :: 5 :: 5 :: 6 :: 2 :: 3 :: 3 :: 4 :: 3 :: 4 :: 4 :: 5 :: 3 :: 4 :: 4 :: 5 :: 4 :: 5 :: 5 :: 6 :: 3 :: 4 :: 4 :: 5 :: 4 :: 5 :: 5 :: 6 :: 4 :: 5 :: 5 :: 6 :: 5 :: 6 :: 6 :: 7 :: [])).append ((1 :: 2 :: 2 :: 3 :: 2 :: 3 :: 3 :: 4 :: 2 :: 3 :: 3 :: 4 :: 3 :: 4 :: 4 :: 5 :: 2 :: 3 :: 3 :: 4 :: 3 :: 4 :: 4 :: 5 :: 3 :: 4 :: 4 :: 5 :: 4 :: 5 :: 5 :: 6 :: 2 :: 3 :: 3 :: 4 :: 3 :: 4 :: 4 :: 5 :: 3 :: 4 :: 4 :: 5 :: 4 :: 5 :: 5 :: 6 :: 3 :: 4 :: 4 :: 5 :: 4 :: 5 :: 5 :: 6 :: 4 :: 5 :: 5 :: 6 :: 5 :: 6 :: 6 :: 7 :: []).append (2 :: 3 :: 3 :: 4 :: 3 :: 4 :: 4 :: 5 :: 3 :: 4 :: 4 :: 5 :: 4 :: 5 :: 5 :: 6 :: 3 :: 4 :: 4 :: 5 :: 4 :: 5 :: 5 :: 6 :: 4 :: 5 :: 5 :: 6 :: 5 :: 6 :: 6 :: 7 :: 3 :: 4 :: 4 :: 5 :: 4 :: 5 :: 5 :: 6 :: 4 :: 5 :: 5 :: 6 :: 5 :: 6 :: 6 :: 7 :: 4 :: 5 :: 5 :: 6 :: 5 :: 6 :: 6 :: 7 :: 5 :: 6 :: 6 :: 7 :: 6 :: 7 :: 7 :: 8 :: []))).toArray } : ByteArray) = T
  have hs : T.size = 256 := by rw [← hT]; exact popT_size
  have hp : ∀ i : Int, 0 ≤ i → i < 256 → bt T i = (pop i 8 : Int) := by rw [← hT]; exact popT_at
  clear hT
  have hB := pop_bytes x
  obtain ⟨b3, hb3⟩ : ∃ b, x / 16777216 = b := ⟨_, rfl⟩
  obtain ⟨b2, hb2⟩ : ∃ b, x / 65536 % 256 = b := ⟨_, rfl⟩
  obtain ⟨b1, hb1⟩ : ∃ b, x / 256 % 256 = b := ⟨_, rfl⟩
  obtain ⟨b0, hb0⟩ : ∃ b, x % 256 = b := ⟨_, rfl⟩
  have p3 : 0 ≤ b3 ∧ b3 < 256 := by omega
  have p2 : 0 ≤ b2 ∧ b2 < 256 := by omega
  have p1 : 0 ≤ b1 ∧ b1 < 256 := by omega
  have p0 : 0 ≤ b0 ∧ b0 < 256 := by omega
  rw [hb3, hb2, hb1, hb0] at hB
  have HB := Lib.hid hB
  rw [hb2] at i1; rw [hb1] at i2; rw [hb0] at i3
  have y3 := bt_at T b3; have y2 := bt_at T b2; have y1 := bt_at T b1; have y0 := bt_at T b0
  rw [hp b3 p3.1 p3.2] at y3; rw [hp b2 p2.1 p2.2] at y2; rw [hp b1 p1.1 p1.2] at y1; rw [hp b0 p0.1 p0.2] at y0
  have Z3 := pop_le b3 8; have Z2 := pop_le b2 8; have Z1 := pop_le b1 8; have Z0 := pop_le b0 8
  clear hb2 hb1 hb0 h0 h1 hp hB
  have q3 : (b3 < 256) = True := eq_true p3.2; have r3 : (0 ≤ b3) = True := eq_true p3.1
  have q2 : (b2 < 256) = True := eq_true p2.2; have r2 : (0 ≤ b2) = True := eq_true p2.1
  have q1 : (b1 < 256) = True := eq_true p1.2; have r1 : (0 ≤ b1) = True := eq_true p1.1
  have q0 : (b0 < 256) = True := eq_true p0.2; have r0 : (0 ≤ b0) = True := eq_true p0.1
  go_wp2
  repeat (go_quiet (fail); try go_wp2)
  go_ret
  exact ⟨by rw [HB.out]; simp, below_drawn (Below.refl _ _) _⟩

def bits_OnesCount32.f (a0 : Int) : Option (Int) := if 0 ≤ a0 ∧ a0 < 4294967296 then some (pop a0 32 : Int) else none
theorem bits_OnesCount32.calls (a0 : Int) (r : Int) (w : World) (h : bits_OnesCount32.f a0 = some r) :
    Calls Try.prog 48 #[.int .u32 a0] w fun e w' => e = .returned (.int .i64 r) ∧ Below w.heap.size w w' := by
  unfold bits_OnesCount32.f at h
  split at h
  · next hb =>
    obtain rfl := Option.some.inj h
    exact OnesCount32_c a0 hb.1 hb.2 w
  · cases h
end Go.Proofs.Ytpjenhojldcmiaa
