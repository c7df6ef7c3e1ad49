/- Contracts by hand of layer 8, turned to layer 14: Push. -/
import Derived.Test.YtpjenhojldcmiaaH1
namespace Go.Proofs.Ytpjenhojldcmiaa
open Go.RowKit Go.Shelf
theorem and1 (x : Int) : bits .and .i64 x 1 = x % 2 := and_low x 1 (by decide)
theorem u255 (p : Int) : bits .and .u64 (IntKind.u64.wrap p) 255 = p % 256 := by
  rw [show (255 : Int) = 2 ^ 8 - 1 from rfl, and_low_u _ 8 (by decide), wrap_u64_eq]; omega

/-- a priority's place -/
def pl (p : Int) : Nat := (p % 256 / 8).toNat
theorem pl_lt (p : Int) : pl p < 32 := by unfold pl; omega
theorem pl_is (p : Int) : bits .and .u64 (IntKind.u64.wrap p) 255 / 8 = (pl p : Int) := by rw [u255]; unfold pl; omega

def setA (op : BinOp) (a g p : Int) : Int := if g % 2 = 0 then bits op .u32 a (2 ^ pl p) else a
def setB (op : BinOp) (b g p : Int) : Int := if g % 2 = 0 then b else bits op .u32 b (2 ^ pl p)
def has (a b g p : Int) : Bool := tb (if g % 2 = 0 then a else b) (pl p)

theorem mod2 (g : Int) : g % 2 = 0 ∨ g % 2 = 1 := by omega

set_option maxRecDepth 100000 in
theorem Push_c (a b g p : Int) (w : World) : Calls Try.prog 31 #[.agg #[.int .u32 a, .int .u32 b], .int .i64 g, .int .i64 p] w fun e w' => e = .returned (.agg #[.int .u32 (setA .or a g p), .int .u32 (setB .or b g p)]) ∧ Below w.heap.size w w' := by
  have hj := pl_is p
  have hl := pl_lt p
  have hp := pow32 (pl p) hl
  have hA : setA .or a g p = if g % 2 = 0 then bits .or .u32 a (2 ^ pl p) else a := rfl
  have hB : setB .or b g p = if g % 2 = 0 then b else bits .or .u32 b (2 ^ pl p) := rfl
  generalize pl p = j at *
  have h1 := and1 g
  rcases mod2 g with h | h
  · rw [h, if_pos rfl] at hA hB
    rw [h] at h1
    have HA := Lib.hid hA
    have HB := Lib.hid hB
    clear hA hB h
    go_enter Try.func31, Try.ntmps31
    go_wp2
    rw [HA.out, HB.out]
    exact bodyPost_ret (v := .agg #[.int .u32 (bits .or .u32 a (2 ^ j)), .int .u32 (b)]) (by simp [results, Try.results31, go_sem]) rfl ⟨rfl, ((Below.refl _ w).alloc (Nat.le_refl _) _).alloc (by simp) _⟩
  · rw [h, if_neg (by decide)] at hA hB
    rw [h] at h1
    have HA := Lib.hid hA
    have HB := Lib.hid hB
    clear hA hB h
    go_enter Try.func31, Try.ntmps31
    go_wp2
    rw [HA.out, HB.out]
    exact bodyPost_ret (v := .agg #[.int .u32 (a), .int .u32 (bits .or .u32 b (2 ^ j))]) (by simp [results, Try.results31, go_sem]) rfl ⟨rfl, ((Below.refl _ w).alloc (Nat.le_refl _) _).alloc (by simp) _⟩

end Go.Proofs.Ytpjenhojldcmiaa
