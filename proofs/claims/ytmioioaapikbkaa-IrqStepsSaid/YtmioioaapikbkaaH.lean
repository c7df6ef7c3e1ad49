/- Contract by hand of layer 7: a state's letters. -/
import Derived.Test.YtmioioaapikbkaaIt
import Derived.Test.YtmioioaapikbkaaProg
import Derived.Maps.AppendAt
import Derived.WalkSmall
import Derived.Laws.EntriesVeiled
import Derived.Laws.IdiomStrings
namespace Go.Proofs.Ytmioioaapikbkaa
open Go.RowKit Go.Shelf
attribute [local go_sem] Oper.semAt_some
theorem info5 : (Try.prog.info? 5).map (fun i => (i.zero, i.size, i.bytes)) = some (some (.int .u8 0), 1, 1) := by kernel_rfl

theorem idx0 (a b c d e f : Value) (w : World) : (Instr.index 48 (.agg #[a, b, c, d, e, f]) (.int .i64 0)).run Try.prog w = .ok (.agg #[a, b]) w := by kernel_rfl
theorem idx1 (a b c d e f : Value) (w : World) : (Instr.index 48 (.agg #[a, b, c, d, e, f]) (.int .i64 1)).run Try.prog w = .ok (.agg #[c, d]) w := by kernel_rfl
theorem idx2 (a b c d e f : Value) (w : World) : (Instr.index 48 (.agg #[a, b, c, d, e, f]) (.int .i64 2)).run Try.prog w = .ok (.agg #[e, f]) w := by kernel_rfl
attribute [local go_sem] idx0 idx1 idx2
def tx0 (e : Bool) : List UInt8 := [if e then 101 else 108]
def tx1 (e l : Bool) : List UInt8 := tx0 e ++ if l then [104] else []
def tx2 (e l h : Bool) : List UInt8 := tx1 e l ++ if h then [119] else []
/-- a state's letters -/
def tx3 (e l h a : Bool) : List UInt8 := tx2 e l h ++ if a then [97] else []
/-- .. the first k of its marks -/
def txK (e l h a : Bool) (k : Nat) : List UInt8 := if k = 0 then tx0 e else if k = 1 then tx1 e l else if k = 2 then tx2 e l h else tx3 e l h a
def u8s (l : List UInt8) : List Value := l.map fun b => .int .u8 (b.toNat : Int)
theorem u8s_snoc (l : List UInt8) (b : UInt8) : u8s (l ++ [b]) = u8s l ++ [.int .u8 (b.toNat : Int)] := by simp [u8s]
theorem txK_len (e l h a : Bool) (k : Nat) : (txK e l h a k).length ≤ 4 := by
  unfold txK tx3 tx2 tx1 tx0
  split
  · simp
  · split
    · cases l <;> simp
    · split
      · cases l <;> cases h <;> simp
      · cases l <;> cases h <;> cases a <;> simp

theorem txK_pos (e l h a : Bool) (k : Nat) : 0 < (txK e l h a k).length := by
  unfold txK tx3 tx2 tx1 tx0
  split
  · simp
  · split
    · simp
    · split <;> simp
theorem ownsRow_some' {w : World} {base : Nat} {e : TypeId} {size : Nat} {v : Value} {n : Nat} {xs : List Value} (h : w.ownsRow base e size v n xs) (hn : 0 < n) : ∃ g c, v = .slice (some ⟨g, 0, none⟩) n c ∧ base ≤ g ∧ g < w.heap.size := by
  rcases h with ⟨_, ⟨-, h0⟩ | ⟨g, cap, cur, hv, hg, hb, -⟩⟩
  · omega
  · exact ⟨g, cap, hv, hg, (Array.getElem?_eq_some_iff.1 hb).1⟩

set_option maxRecDepth 100000 in
set_option maxHeartbeats 2000000 in
theorem Text_c (e l h a : Bool) (w : World) : Calls Try.prog 17 #[.agg #[.bool e, .bool l, .bool h, .bool a]] w fun en w' => en = .returned (.string ⟨(tx3 e l h a).toArray⟩) ∧ Below w.heap.size w w' := by
  obtain ⟨i0, hi, hz0, hz1, hz2⟩ := info_parts info5
  refine calls_of_wide ?_
  refine callsIn_of_wp Try.func17 rfl trivial ?_ rfl
  simp only [Try.ntmps17, List.size_toArray, List.length_cons, List.length_nil, Nat.reduceAdd, Nat.reduceSub, Array.replicate_succ, Array.replicate_zero, List.push_toArray, List.append_toArray, List.nil_append, List.cons_append]
  cases e with
  | true =>
    gi_wp2
    gi_loopw [3, 21] (fun v p wr => ∃ k : Nat, k ≤ 3 ∧ p = .int .i64 k ∧ wr.ownsRow (w.heap.size + 1) 5 1 v (txK true l h a k).length (u8s (txK true l h a k)) ∧ Below w.heap.size w wr) (fun _ p _ => 3 - (intOf p).toNat)
    case atStart => exact ⟨0, by omega, rfl, by have := World.ownsRow_lit (base := w.heap.size + 1) (e := 5) (size := 1) (w.alloc (.cells #[.bool true, .bool l, .bool h, .bool a] 23)) #[.int .u8 101] 1 (by simp) (by decide) rfl; rw [World.size_alloc] at this; exact this, ((Below.refl _ w).alloc (Nat.le_refl _) _).alloc (by simp) _⟩
    case round =>
      obtain ⟨k, hk, rfl, hrow, hB⟩ := hrel
      have hpos : 0 < (txK true l h a k).length := txK_pos true l h a k
      have hsz : w.heap.size + 1 ≤ wr.heap.size := by obtain ⟨g, c, -, g1, g2⟩ := ownsRow_some' hrow hpos; omega
      have hl4 := txK_len true l h a k
      have hbase := hrow.lt
      obtain rfl | rfl | rfl | rfl : k = 0 ∨ k = 1 ∨ k = 2 ∨ k = 3 := by omega
      · cases l with
        | true =>
          have b1 : (txK true true h a 0).length + 1 ≤ maxLen := by unfold maxLen; omega
          have b2 : ((txK true true h a 0).length + 1) * 1 ≤ 140737488355328 := by omega
          have b3 : w.heap.size + 1 ≤ ((wr.alloc (.cells #[.bool true, .int .u8 104] 47)).alloc (.cells #[.int .u8 104] 5)).heap.size := by simp; omega
          have c1 : ∀ j u, [Value.int .u8 104][j]? = some u → ((wr.alloc (.cells #[.bool true, .int .u8 104] 47)).alloc (.cells #[.int .u8 104] 5)).cell? ((⟨wr.heap.size + 1, 0, none⟩ : Addr).add j) = some u := by
            have := cell_one_new (wr.alloc (.cells #[.bool true, .int .u8 104] 47)) (.int .u8 104) 5
            rw [World.size_alloc] at this; exact this
          gi_wp2_with (gi_at_builtin; refine wpListIn_append_own _ rfl _ _ 46 rfl (w.heap.size + 1) 5 i0 (.int .u8 0) 1 1 Try.underlying46 hi hz0 hz1 hz2 rfl (by decide) _ _ _ rfl ((hrow.alloc _).alloc _) ⟨wr.heap.size + 1, 0, none⟩ 1 1 [.int .u8 104] rfl rfl c1 (by simp [Value.oneCell']) b1 b2 b3 ?_; intro v' w1 hown' hgrow _; obtain ⟨g', cap', rfl⟩ := ownsRow_succ hown')
          go_roundw
          case rel =>
            refine ⟨1, by omega, rfl, ?_, ((hB.alloc (by omega) _).alloc (by simp; omega) _).grown hgrow (by simp; omega) (fun j ej => by have := (hbase j ej).1; omega)⟩
            rw [show txK true true h a 1 = txK true true h a 0 ++ [104] from rfl, u8s_snoc, List.length_append]
            exact hown'
          case measure => simp [intOf]
        | false =>
          gi_wp2
          go_roundw
          case rel =>
            refine ⟨1, by omega, rfl, ?_, hB.alloc (by omega) _⟩
            rw [show txK true false h a 1 = txK true false h a 0 from List.append_nil _]
            exact hrow.alloc _
          case measure => simp [intOf]
      · cases h with
        | true =>
          have b1 : (txK true l true a 1).length + 1 ≤ maxLen := by unfold maxLen; omega
          have b2 : ((txK true l true a 1).length + 1) * 1 ≤ 140737488355328 := by omega
          have b3 : w.heap.size + 1 ≤ ((wr.alloc (.cells #[.bool true, .int .u8 119] 47)).alloc (.cells #[.int .u8 119] 5)).heap.size := by simp; omega
          have c1 : ∀ j u, [Value.int .u8 119][j]? = some u → ((wr.alloc (.cells #[.bool true, .int .u8 119] 47)).alloc (.cells #[.int .u8 119] 5)).cell? ((⟨wr.heap.size + 1, 0, none⟩ : Addr).add j) = some u := by
            have := cell_one_new (wr.alloc (.cells #[.bool true, .int .u8 119] 47)) (.int .u8 119) 5
            rw [World.size_alloc] at this; exact this
          gi_wp2_with (gi_at_builtin; refine wpListIn_append_own _ rfl _ _ 46 rfl (w.heap.size + 1) 5 i0 (.int .u8 0) 1 1 Try.underlying46 hi hz0 hz1 hz2 rfl (by decide) _ _ _ rfl ((hrow.alloc _).alloc _) ⟨wr.heap.size + 1, 0, none⟩ 1 1 [.int .u8 119] rfl rfl c1 (by simp [Value.oneCell']) b1 b2 b3 ?_; intro v' w1 hown' hgrow _; obtain ⟨g', cap', rfl⟩ := ownsRow_succ hown')
          go_roundw
          case rel =>
            refine ⟨2, by omega, rfl, ?_, ((hB.alloc (by omega) _).alloc (by simp; omega) _).grown hgrow (by simp; omega) (fun j ej => by have := (hbase j ej).1; omega)⟩
            rw [show txK true l true a 2 = txK true l true a 1 ++ [119] from rfl, u8s_snoc, List.length_append]
            exact hown'
          case measure => simp [intOf]
        | false =>
          gi_wp2
          go_roundw
          case rel =>
            refine ⟨2, by omega, rfl, ?_, hB.alloc (by omega) _⟩
            rw [show txK true l false a 2 = txK true l false a 1 from List.append_nil _]
            exact hrow.alloc _
          case measure => simp [intOf]
      · cases a with
        | true =>
          have b1 : (txK true l h true 2).length + 1 ≤ maxLen := by unfold maxLen; omega
          have b2 : ((txK true l h true 2).length + 1) * 1 ≤ 140737488355328 := by omega
          have b3 : w.heap.size + 1 ≤ ((wr.alloc (.cells #[.bool true, .int .u8 97] 47)).alloc (.cells #[.int .u8 97] 5)).heap.size := by simp; omega
          have c1 : ∀ j u, [Value.int .u8 97][j]? = some u → ((wr.alloc (.cells #[.bool true, .int .u8 97] 47)).alloc (.cells #[.int .u8 97] 5)).cell? ((⟨wr.heap.size + 1, 0, none⟩ : Addr).add j) = some u := by
            have := cell_one_new (wr.alloc (.cells #[.bool true, .int .u8 97] 47)) (.int .u8 97) 5
            rw [World.size_alloc] at this; exact this
          gi_wp2_with (gi_at_builtin; refine wpListIn_append_own _ rfl _ _ 46 rfl (w.heap.size + 1) 5 i0 (.int .u8 0) 1 1 Try.underlying46 hi hz0 hz1 hz2 rfl (by decide) _ _ _ rfl ((hrow.alloc _).alloc _) ⟨wr.heap.size + 1, 0, none⟩ 1 1 [.int .u8 97] rfl rfl c1 (by simp [Value.oneCell']) b1 b2 b3 ?_; intro v' w1 hown' hgrow _; obtain ⟨g', cap', rfl⟩ := ownsRow_succ hown')
          go_roundw
          case rel =>
            refine ⟨3, by omega, rfl, ?_, ((hB.alloc (by omega) _).alloc (by simp; omega) _).grown hgrow (by simp; omega) (fun j ej => by have := (hbase j ej).1; omega)⟩
            rw [show txK true l h true 3 = txK true l h true 2 ++ [97] from rfl, u8s_snoc, List.length_append]
            exact hown'
          case measure => simp [intOf]
        | false =>
          gi_wp2
          go_roundw
          case rel =>
            refine ⟨3, by omega, rfl, ?_, hB.alloc (by omega) _⟩
            rw [show txK true l h false 3 = txK true l h false 2 from List.append_nil _]
            exact hrow.alloc _
          case measure => simp [intOf]
      · obtain ⟨g, cap, hv, hg, -⟩ := ownsRow_some' hrow hpos
        subst hv
        have hconv := run_convert_bytes_back (P := Try.prog) wr 46 9 5 ⟨g, 0, none⟩ cap (tx3 true l h a) Try.underlying46 Try.underlying5 Try.underlying9 (fun j hj => hrow.cells (g := g) rfl j _ (by simp [u8s, txK, hj]))
        have hlen : (txK true l h a 3).length = (tx3 true l h a).length := rfl
        rw [← hlen] at hconv
        clear hlen hl4 hpos
        gi_wp2
        go_ret
        exact ⟨rfl, hB⟩
  | false =>
    gi_wp2
    gi_loopw [3, 21] (fun v p wr => ∃ k : Nat, k ≤ 3 ∧ p = .int .i64 k ∧ wr.ownsRow (w.heap.size + 1) 5 1 v (txK false l h a k).length (u8s (txK false l h a k)) ∧ Below w.heap.size w wr) (fun _ p _ => 3 - (intOf p).toNat)
    case atStart => exact ⟨0, by omega, rfl, by have := World.ownsRow_lit (base := w.heap.size + 1) (e := 5) (size := 1) (w.alloc (.cells #[.bool false, .bool l, .bool h, .bool a] 23)) #[.int .u8 108] 1 (by simp) (by decide) rfl; rw [World.size_alloc] at this; exact this, ((Below.refl _ w).alloc (Nat.le_refl _) _).alloc (by simp) _⟩
    case round =>
      obtain ⟨k, hk, rfl, hrow, hB⟩ := hrel
      have hpos : 0 < (txK false l h a k).length := txK_pos false l h a k
      have hsz : w.heap.size + 1 ≤ wr.heap.size := by obtain ⟨g, c, -, g1, g2⟩ := ownsRow_some' hrow hpos; omega
      have hl4 := txK_len false l h a k
      have hbase := hrow.lt
      obtain rfl | rfl | rfl | rfl : k = 0 ∨ k = 1 ∨ k = 2 ∨ k = 3 := by omega
      · cases l with
        | true =>
          have b1 : (txK false true h a 0).length + 1 ≤ maxLen := by unfold maxLen; omega
          have b2 : ((txK false true h a 0).length + 1) * 1 ≤ 140737488355328 := by omega
          have b3 : w.heap.size + 1 ≤ ((wr.alloc (.cells #[.bool true, .int .u8 104] 47)).alloc (.cells #[.int .u8 104] 5)).heap.size := by simp; omega
          have c1 : ∀ j u, [Value.int .u8 104][j]? = some u → ((wr.alloc (.cells #[.bool true, .int .u8 104] 47)).alloc (.cells #[.int .u8 104] 5)).cell? ((⟨wr.heap.size + 1, 0, none⟩ : Addr).add j) = some u := by
            have := cell_one_new (wr.alloc (.cells #[.bool true, .int .u8 104] 47)) (.int .u8 104) 5
            rw [World.size_alloc] at this; exact this
          gi_wp2_with (gi_at_builtin; refine wpListIn_append_own _ rfl _ _ 46 rfl (w.heap.size + 1) 5 i0 (.int .u8 0) 1 1 Try.underlying46 hi hz0 hz1 hz2 rfl (by decide) _ _ _ rfl ((hrow.alloc _).alloc _) ⟨wr.heap.size + 1, 0, none⟩ 1 1 [.int .u8 104] rfl rfl c1 (by simp [Value.oneCell']) b1 b2 b3 ?_; intro v' w1 hown' hgrow _; obtain ⟨g', cap', rfl⟩ := ownsRow_succ hown')
          go_roundw
          case rel =>
            refine ⟨1, by omega, rfl, ?_, ((hB.alloc (by omega) _).alloc (by simp; omega) _).grown hgrow (by simp; omega) (fun j ej => by have := (hbase j ej).1; omega)⟩
            rw [show txK false true h a 1 = txK false true h a 0 ++ [104] from rfl, u8s_snoc, List.length_append]
            exact hown'
          case measure => simp [intOf]
        | false =>
          gi_wp2
          go_roundw
          case rel =>
            refine ⟨1, by omega, rfl, ?_, hB.alloc (by omega) _⟩
            rw [show txK false false h a 1 = txK false false h a 0 from List.append_nil _]
            exact hrow.alloc _
          case measure => simp [intOf]
      · cases h with
        | true =>
          have b1 : (txK false l true a 1).length + 1 ≤ maxLen := by unfold maxLen; omega
          have b2 : ((txK false l true a 1).length + 1) * 1 ≤ 140737488355328 := by omega
          have b3 : w.heap.size + 1 ≤ ((wr.alloc (.cells #[.bool true, .int .u8 119] 47)).alloc (.cells #[.int .u8 119] 5)).heap.size := by simp; omega
          have c1 : ∀ j u, [Value.int .u8 119][j]? = some u → ((wr.alloc (.cells #[.bool true, .int .u8 119] 47)).alloc (.cells #[.int .u8 119] 5)).cell? ((⟨wr.heap.size + 1, 0, none⟩ : Addr).add j) = some u := by
            have := cell_one_new (wr.alloc (.cells #[.bool true, .int .u8 119] 47)) (.int .u8 119) 5
            rw [World.size_alloc] at this; exact this
          gi_wp2_with (gi_at_builtin; refine wpListIn_append_own _ rfl _ _ 46 rfl (w.heap.size + 1) 5 i0 (.int .u8 0) 1 1 Try.underlying46 hi hz0 hz1 hz2 rfl (by decide) _ _ _ rfl ((hrow.alloc _).alloc _) ⟨wr.heap.size + 1, 0, none⟩ 1 1 [.int .u8 119] rfl rfl c1 (by simp [Value.oneCell']) b1 b2 b3 ?_; intro v' w1 hown' hgrow _; obtain ⟨g', cap', rfl⟩ := ownsRow_succ hown')
          go_roundw
          case rel =>
            refine ⟨2, by omega, rfl, ?_, ((hB.alloc (by omega) _).alloc (by simp; omega) _).grown hgrow (by simp; omega) (fun j ej => by have := (hbase j ej).1; omega)⟩
            rw [show txK false l true a 2 = txK false l true a 1 ++ [119] from rfl, u8s_snoc, List.length_append]
            exact hown'
          case measure => simp [intOf]
        | false =>
          gi_wp2
          go_roundw
          case rel =>
            refine ⟨2, by omega, rfl, ?_, hB.alloc (by omega) _⟩
            rw [show txK false l false a 2 = txK false l false a 1 from List.append_nil _]
            exact hrow.alloc _
          case measure => simp [intOf]
      · cases a with
        | true =>
          have b1 : (txK false l h true 2).length + 1 ≤ maxLen := by unfold maxLen; omega
          have b2 : ((txK false l h true 2).length + 1) * 1 ≤ 140737488355328 := by omega
          have b3 : w.heap.size + 1 ≤ ((wr.alloc (.cells #[.bool true, .int .u8 97] 47)).alloc (.cells #[.int .u8 97] 5)).heap.size := by simp; omega
          have c1 : ∀ j u, [Value.int .u8 97][j]? = some u → ((wr.alloc (.cells #[.bool true, .int .u8 97] 47)).alloc (.cells #[.int .u8 97] 5)).cell? ((⟨wr.heap.size + 1, 0, none⟩ : Addr).add j) = some u := by
            have := cell_one_new (wr.alloc (.cells #[.bool true, .int .u8 97] 47)) (.int .u8 97) 5
            rw [World.size_alloc] at this; exact this
          gi_wp2_with (gi_at_builtin; refine wpListIn_append_own _ rfl _ _ 46 rfl (w.heap.size + 1) 5 i0 (.int .u8 0) 1 1 Try.underlying46 hi hz0 hz1 hz2 rfl (by decide) _ _ _ rfl ((hrow.alloc _).alloc _) ⟨wr.heap.size + 1, 0, none⟩ 1 1 [.int .u8 97] rfl rfl c1 (by simp [Value.oneCell']) b1 b2 b3 ?_; intro v' w1 hown' hgrow _; obtain ⟨g', cap', rfl⟩ := ownsRow_succ hown')
          go_roundw
          case rel =>
            refine ⟨3, by omega, rfl, ?_, ((hB.alloc (by omega) _).alloc (by simp; omega) _).grown hgrow (by simp; omega) (fun j ej => by have := (hbase j ej).1; omega)⟩
            rw [show txK false l h true 3 = txK false l h true 2 ++ [97] from rfl, u8s_snoc, List.length_append]
            exact hown'
          case measure => simp [intOf]
        | false =>
          gi_wp2
          go_roundw
          case rel =>
            refine ⟨3, by omega, rfl, ?_, hB.alloc (by omega) _⟩
            rw [show txK false l h false 3 = txK false l h false 2 from List.append_nil _]
            exact hrow.alloc _
          case measure => simp [intOf]
      · obtain ⟨g, cap, hv, hg, -⟩ := ownsRow_some' hrow hpos
        subst hv
        have hconv := run_convert_bytes_back (P := Try.prog) wr 46 9 5 ⟨g, 0, none⟩ cap (tx3 false l h a) Try.underlying46 Try.underlying5 Try.underlying9 (fun j hj => hrow.cells (g := g) rfl j _ (by simp [u8s, txK, hj]))
        have hlen : (txK false l h a 3).length = (tx3 false l h a).length := rfl
        rw [← hlen] at hconv
        clear hlen hl4 hpos
        gi_wp2
        go_ret
        exact ⟨rfl, hB⟩
end Go.Proofs.Ytmioioaapikbkaa
