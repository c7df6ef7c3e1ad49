/- What a number calls, and whether it names processors that there are not, is what the document says: for every number. -/
import Derived.Test.YtfenchaiflfobaaP0
import Derived.Test.YtfenchaiflfobaaIAllx6
namespace Go.Proofs.Ytfenchaiflfobaa.Pure
open Go.RowKit Go.Proofs.Ytfenchaiflfobaa.IAll Go.Proofs.YtfenchaiflfobaaW.PrintWords Go.Proofs.YtfenchaiflfobaaW.PrintLast Go.Proofs.YtfenchaiflfobaaW.PrintMore

theorem low_u (x : Int) (j : Nat) (m : Int) (hm : m = 2 ^ j - 1) (hj : j ≤ 63) : Go.bits .and .u64 x m = x % 2 ^ j := by rw [hm]; exact and_low_u x j hj
/-- what a number is read as -/
theorem decode_is (v : Int) : sgi_Decode.f v = some (v / 2 ^ 24 % 2 ^ 4, (v / 2 ^ 40 % 2 ^ 1 == 1), v % 2 ^ 16,
    (v / 2 ^ 16 % 2 ^ 8 != 0 || (v / 2 ^ 32 % 2 ^ 8 != 0 || (v / 2 ^ 44 % 2 ^ 4 != 0 || v / 2 ^ 48 % 2 ^ 8 != 0)))) := by
  unfold sgi_Decode.f
  rw [low_u (v / 65536) 8 255 (by decide) (by decide), low_u (v / 4294967296) 8 255 (by decide) (by decide), low_u (v / 17592186044416) 4 15 (by decide) (by decide),
    low_u (v / 16777216) 4 15 (by decide) (by decide), low_u (v / 1099511627776) 1 1 (by decide) (by decide), low_u v 16 65535 (by decide) (by decide), low_u (v / 281474976710656) 8 255 (by decide) (by decide)]
  have e16 : (2 : Int) ^ 16 = 65536 := by decide
  have e24 : (2 : Int) ^ 24 = 16777216 := by decide
  have e32 : (2 : Int) ^ 32 = 4294967296 := by decide
  have e40 : (2 : Int) ^ 40 = 1099511627776 := by decide
  have e44 : (2 : Int) ^ 44 = 17592186044416 := by decide
  have e48 : (2 : Int) ^ 48 = 281474976710656 := by decide
  have e4 : (2 : Int) ^ 4 = 16 := by decide
  have e8 : (2 : Int) ^ 8 = 256 := by decide
  have e1 : (2 : Int) ^ 1 = 2 := by decide
  rw [e16, e24, e32, e40, e44, e48, e4, e8, e1]
  rw [w64 (v / 16777216 % 16) (by omega), w64 (v % 65536) (by omega)]
  by_cases h1 : v / 65536 % 256 = 0
  · rw [if_pos h1]
    by_cases h2 : v / 4294967296 % 256 = 0
    · rw [if_pos h2]
      by_cases h3 : v / 17592186044416 % 16 = 0
      · rw [if_pos h3, h1, h2, h3]; simp
      · rw [if_neg h3, h1, h2]; simp [h3]
    · rw [if_neg h2, h1]; simp [h2]
  · rw [if_neg h1]; simp [h1]
theorem odd_is (v : Int) (hv : 0 ≤ v) (k : Nat) (hk : 40 ≤ k) : crierref12_Odd.f k v = some (v / 2 ^ 16 % 2 ^ 8 != 0 || (v / 2 ^ 32 % 2 ^ 8 != 0 || (v / 2 ^ 44 % 2 ^ 4 != 0 || v / 2 ^ 48 % 2 ^ 8 != 0))) := by
  unfold crierref12_Odd.f
  rw [show crierref12_Part.f k v 16 23 = _ from part_is v hv 16 8 (by decide) (by decide) k hk, show crierref12_Part.f k v 32 39 = _ from part_is v hv 32 8 (by decide) (by decide) k hk,
    show crierref12_Part.f k v 44 47 = _ from part_is v hv 44 4 (by decide) (by decide) k hk, show crierref12_Part.f k v 48 55 = _ from part_is v hv 48 8 (by decide) (by decide) k hk]
  simp only [Option.bind_some]
  generalize v / 2 ^ 16 % 2 ^ 8 = p1
  generalize v / 2 ^ 32 % 2 ^ 8 = p2
  generalize v / 2 ^ 44 % 2 ^ 4 = p3
  generalize v / 2 ^ 48 % 2 ^ 8 = p4
  by_cases h1 : p1 = 0
  · rw [if_pos h1]
    by_cases h2 : p2 = 0
    · rw [if_pos h2]
      by_cases h3 : p3 = 0
      · rw [if_pos h3, h1, h2, h3]; simp
      · rw [if_neg h3, h1, h2]; simp [h3]
    · rw [if_neg h2, h1]; simp [h2]
  · rw [if_neg h1]; simp [h1]

theorem SgiReads : crierlaw12_SgiReads.Pure := by
  intro v hv
  have hv := wf_u64 hv
  refine ⟨50, ?_⟩
  unfold crierlaw12_SgiReads.f
  rw [decode_is, awake_true 50 (by omega), show crierref12_Part.f 50 v 24 27 = _ from part_is v hv.1 24 4 (by decide) (by decide) 50 (by decide),
    show crierref12_Part.f 50 v 40 40 = _ from part_is v hv.1 40 1 (by decide) (by decide) 50 (by decide), show crierref12_Part.f 50 v 0 15 = _ from part_is v hv.1 0 16 (by decide) (by decide) 50 (by decide), odd_is v hv.1 50 (by decide)]
  simp
end Go.Proofs.Ytfenchaiflfobaa.Pure
