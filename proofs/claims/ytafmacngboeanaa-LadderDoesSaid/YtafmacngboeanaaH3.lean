/- Contracts by hand of layer 8: Push, Clear, Has, Of. -/
import Derived.Test.YtafmacngboeanaaH1
import Derived.Laws.CopyOwn
namespace Go.Proofs.Ytafmacngboeanaa
open Go.RowKit Go.Shelf
theorem and1 (x : Int) : bits .and .i64 x 1 = x % 2 := and_low x 1 (by decide)
theorem u255 (p : Int) : bits .and .u64 (IntKind.u64.wrap p) 255 = p % 256 := by
  rw [show (255 : Int) = 2 ^ 8 - 1 from rfl, and_low_u _ 8 (by decide), wrap_u64_eq]; omega
/-- a priority's place -/
def pl (p : Int) : Nat := (p % 256 / 8).toNat
theorem pl_lt (p : Int) : pl p < 32 := by unfold pl; omega
theorem pl_is (p : Int) : bits .and .u64 (IntKind.u64.wrap p) 255 / 8 = (pl p : Int) := by rw [u255]; unfold pl; omega
def setA (op : BinOp) (a g p : Int) : Int := if g % 2 = 0 then bits op .u32 a (2 ^ pl p) else a
def setB (op : BinOp) (b g p : Int) : Int := if g % 2 = 0 then b else bits op .u32 b (2 ^ pl p)
def has (a b g p : Int) : Bool := tb (if g % 2 = 0 then a else b) (pl p)
theorem mod2 (g : Int) : g % 2 = 0 ∨ g % 2 = 1 := by omega
set_option maxRecDepth 100000 in
theorem Push_c (a b g p : Int) (w : World) : Calls Try.prog 12 #[.agg #[.int .u32 a, .int .u32 b], .int .i64 g, .int .i64 p] w fun e w' => e = .returned (.agg #[.int .u32 (setA .or a g p), .int .u32 (setB .or b g p)]) ∧ Below w.heap.size w w' := by
  have hj := pl_is p
  have hl := pl_lt p
  have hp := pow32 (pl p) hl
  have hA : setA .or a g p = if g % 2 = 0 then bits .or .u32 a (2 ^ pl p) else a := rfl
  have hB : setB .or b g p = if g % 2 = 0 then b else bits .or .u32 b (2 ^ pl p) := rfl
  generalize pl p = j at *
  have h1 := and1 g
  rcases mod2 g with h | h
  · rw [h, if_pos rfl] at hA hB
    rw [h] at h1
    have HA := Lib.hid hA
    have HB := Lib.hid hB
    clear hA hB h
    go_enter Try.func12, Try.ntmps12
    go_wp2
    rw [HA.out, HB.out]
    exact bodyPost_ret (v := .agg #[.int .u32 (bits .or .u32 a (2 ^ j)), .int .u32 (b)]) (by simp [results, Try.results12, go_sem]) rfl ⟨rfl, ((Below.refl _ w).alloc (Nat.le_refl _) _).alloc (by simp) _⟩
  · rw [h, if_neg (by decide)] at hA hB
    rw [h] at h1
    have HA := Lib.hid hA
    have HB := Lib.hid hB
    clear hA hB h
    go_enter Try.func12, Try.ntmps12
    go_wp2
    rw [HA.out, HB.out]
    exact bodyPost_ret (v := .agg #[.int .u32 (a), .int .u32 (bits .or .u32 b (2 ^ j))]) (by simp [results, Try.results12, go_sem]) rfl ⟨rfl, ((Below.refl _ w).alloc (Nat.le_refl _) _).alloc (by simp) _⟩
set_option maxRecDepth 100000 in
theorem Clear_c (a b g p : Int) (w : World) : Calls Try.prog 19 #[.agg #[.int .u32 a, .int .u32 b], .int .i64 g, .int .i64 p] w fun e w' => e = .returned (.agg #[.int .u32 (setA .andNot a g p), .int .u32 (setB .andNot b g p)]) ∧ Below w.heap.size w w' := by
  have hj := pl_is p
  have hl := pl_lt p
  have hp := pow32 (pl p) hl
  have hA : setA .andNot a g p = if g % 2 = 0 then bits .andNot .u32 a (2 ^ pl p) else a := rfl
  have hB : setB .andNot b g p = if g % 2 = 0 then b else bits .andNot .u32 b (2 ^ pl p) := rfl
  generalize pl p = j at *
  have h1 := and1 g
  rcases mod2 g with h | h
  · rw [h, if_pos rfl] at hA hB
    rw [h] at h1
    have HA := Lib.hid hA
    have HB := Lib.hid hB
    clear hA hB h
    go_enter Try.func19, Try.ntmps19
    go_wp2
    rw [HA.out, HB.out]
    exact bodyPost_ret (v := .agg #[.int .u32 (bits .andNot .u32 a (2 ^ j)), .int .u32 (b)]) (by simp [results, Try.results19, go_sem]) rfl ⟨rfl, ((Below.refl _ w).alloc (Nat.le_refl _) _).alloc (by simp) _⟩
  · rw [h, if_neg (by decide)] at hA hB
    rw [h] at h1
    have HA := Lib.hid hA
    have HB := Lib.hid hB
    clear hA hB h
    go_enter Try.func19, Try.ntmps19
    go_wp2
    rw [HA.out, HB.out]
    exact bodyPost_ret (v := .agg #[.int .u32 (a), .int .u32 (bits .andNot .u32 b (2 ^ j))]) (by simp [results, Try.results19, go_sem]) rfl ⟨rfl, ((Below.refl _ w).alloc (Nat.le_refl _) _).alloc (by simp) _⟩
set_option maxRecDepth 100000 in
theorem Has_c (a b g p : Int) (w : World) : Calls Try.prog 15 #[.agg #[.int .u32 a, .int .u32 b], .int .i64 g, .int .i64 p] w fun e w' => e = .returned (.bool (has a b g p)) ∧ Below w.heap.size w w' := by
  have hj := pl_is p
  have hl := pl_lt p
  have hH : has a b g p = (bits .and .u32 ((if g % 2 = 0 then a else b) / 2 ^ pl p) 1 == 1) := by rw [bit_test_w]; rfl
  generalize pl p = j at *
  have h1 := and1 g
  rcases mod2 g with h | h
  · rw [h, if_pos rfl] at hH
    rw [h] at h1
    have HH := Lib.hid hH
    clear hH h
    go_enter Try.func15, Try.ntmps15
    go_wp2
    go_ret
    exact ⟨by rw [HH.out]; rfl, (Below.refl _ w).alloc (Nat.le_refl _) _⟩
  · rw [h, if_neg (by decide)] at hH
    rw [h] at h1
    have HH := Lib.hid hH
    clear hH h
    go_enter Try.func15, Try.ntmps15
    go_wp2
    go_ret
    exact ⟨by rw [HH.out]; rfl, (Below.refl _ w).alloc (Nat.le_refl _) _⟩
theorem size22 : (Try.prog.info? 22).map (·.size) = some 1 := by kernel_rfl
set_option maxRecDepth 100000 in
theorem Of_c (A : Option Addr) (c : Nat) (l : List Int) (w : World)
    (hr : 0 < l.length → ∃ ad, A = some ad ∧ ∀ j, j < l.length → w.cell? (ad.add j) = some (.int .u32 (l.getD j 0))) :
    Calls Try.prog 10 #[.slice A l.length c] w fun e w' => e = .returned (.agg #[.int .u32 (l.getD 0 0), .int .u32 (l.getD 1 0)]) ∧ Below w.heap.size w w' := by
  have key : ∀ (cs : List Value) (n : Nat) (u v : Int), n = l.length → cs.length = Nat.min n 2 → (∀ (j : Nat) (x : Value), cs[j]? = some x → ∃ y : Int, x = Value.int .u32 y ∧ l[j]? = some y) → (splice [Value.int .u32 0, .int .u32 0] 0 cs = [.int .u32 u, .int .u32 v]) →
      Calls Try.prog 10 #[.slice A n c] w fun e w' => e = .returned (.agg #[.int .u32 u, .int .u32 v]) ∧ Below w.heap.size w w' := by
    intro cs n u v hn hcs hget hsp
    have HG : ((w.alloc (.cells #[.int .u32 0, .int .u32 0] 26)).alloc (.cells #[.int .u32 0, .int .u32 0] 26)).heap[w.heap.size + 1]? = some (.cells [Value.int .u32 0, .int .u32 0].toArray 26 (0, 0)) := by
      have := BoxN.new (w.alloc (.cells #[.int .u32 0, .int .u32 0] 26)) 26 #[.int .u32 0, .int .u32 0]
      rw [World.size_alloc] at this; exact this
    have hb0 : Below w.heap.size w ((w.alloc (.cells #[.int .u32 0, .int .u32 0] 26)).alloc (.cells #[.int .u32 0, .int .u32 0] 26)) := ((Below.refl _ w).alloc (Nat.le_refl _) _).alloc (by simp) _
    have b1 : BoxN ((w.alloc (.cells #[.int .u32 0, .int .u32 0] 26)).alloc (.cells #[.int .u32 0, .int .u32 0] 26)) w.heap.size 26 #[.int .u32 0, .int .u32 0] := (BoxN.new w 26 _).alloc _
    have hb1 : Below (w.heap.size + 1) ((w.alloc (.cells #[.int .u32 0, .int .u32 0] 26)).alloc (.cells #[.int .u32 0, .int .u32 0] 26)) ((w.alloc (.cells #[.int .u32 0, .int .u32 0] 26)).alloc (.cells #[.int .u32 0, .int .u32 0] 26)) := Below.refl _ _
    have hpos : 0 < cs.length → some (⟨w.heap.size + 1, 0, none⟩ : Addr) = some ⟨w.heap.size + 1, 0, none⟩ ∧ ∃ ad, A = some ad ∧ ∀ j x, cs[j]? = some x → ((w.alloc (.cells #[.int .u32 0, .int .u32 0] 26)).alloc (.cells #[.int .u32 0, .int .u32 0] 26)).cell? (ad.add j) = some x := by
      intro h0
      have hl0 : 0 < l.length := by
        rcases Nat.eq_zero_or_pos l.length with hz | hz
        · rw [hn, hz] at hcs; simp at hcs; rw [hcs] at h0; simp at h0
        · exact hz
      obtain ⟨ad, hA, hc⟩ := hr hl0
      refine ⟨rfl, ad, hA, fun j x hx => ?_⟩
      obtain ⟨y, rfl, hy⟩ := hget j x hx
      have hj : j < l.length := (List.getElem?_eq_some_iff.1 hy).1
      have := hc j hj
      rw [List.getD_eq_getElem?_getD, hy] at this
      have hlt : (ad.add j).block < w.heap.size := by
        obtain ⟨o, ho, _⟩ := cells_of_cell this
        exact (Array.getElem?_eq_some_iff.1 ho).1
      rw [hb0.cell (p := ad.add j) hlt]; exact this
    have h1 : ∀ x ∈ cs, x.oneCell' = true := by
      intro x hx
      obtain ⟨j, hj, rfl⟩ := List.getElem_of_mem hx
      obtain ⟨y, hy, _⟩ := hget j _ (List.getElem?_eq_getElem hj)
      rw [hy]; rfl
    have h2 : cs.length ≤ 2 := by rw [hcs]; exact Nat.min_le_right _ _
    have HCS := Lib.hid hcs
    have HSP := Lib.hid hsp
    have HGG := Lib.hid HG
    have HN := Lib.hid hn
    have HGET := Lib.hid hget
    have HPOS := Lib.hid hpos
    have HB1 := Lib.hid b1
    have HBB := Lib.hid hb1
    have H1 := Lib.hid h1
    clear hcs hsp HG hn hget hpos b1 hb1 h1 hr
    go_enter Try.func10, Try.ntmps10
    go_wp2_with (refine wpList_copy_splice rfl (.tmp 5) (.tmp 6) 56 56 rfl 22 Try.underlying56 size22 (some ⟨w.heap.size + 1, 0, none⟩) A 2 2 n c rfl rfl (w.heap.size + 1) 0 [Value.int .u32 0, .int .u32 0] 26 HGG.out cs HCS.out HPOS.out (by simpa using h2) H1.out (w.heap.size + 1) _ HBB.out (Nat.le_refl _) ?_; intro w2 hg2 hb2; have hx : BoxN w2 (w.heap.size + 1) 26 #[.int .u32 u, .int .u32 v] := (by have z := hg2.out; rw [HSP.out] at z; exact z); have hy : BoxN w2 w.heap.size 26 #[.int .u32 0, .int .u32 0] := (HB1.out.below hb2 (by omega)); have c0 := hx.cell (i := 0) rfl; have c1 := hx.cell (i := 1) rfl; have d0 := hy.cell (i := 0) rfl; have d1 := hy.cell (i := 1) rfl; have e0 := hy.frozen 0; have e1 := hy.frozen 1; have HX := Lib.hid hx; have HY := Lib.hid hy; clear hx hy)
    have z := BoxN.set 1 (.int .u32 v) (BoxN.set 0 (.int .u32 u) HY.out)
    have z0 := z.cell (i := 0) rfl
    have z1 := z.cell (i := 1) rfl
    exact bodyPost_ret (v := .agg #[.int .u32 u, .int .u32 v]) (by simp [results, Try.results10, go_sem, z0, z1]) rfl ⟨rfl, ((hb0.trans (hb2.mono (by omega))).setCell (p := ⟨w.heap.size, 0, none⟩) (by simp) _).setCell (p := ⟨w.heap.size, 1, none⟩) (by simp) _⟩
  rcases l with _ | ⟨x, _ | ⟨y, l⟩⟩
  · exact key [] 0 0 0 rfl rfl (by simp) rfl
  · exact key [.int .u32 x] 1 x 0 rfl rfl (by intro j z hz; match j, hz with | 0, hz => (simp at hz; exact ⟨x, hz.symm, rfl⟩)) rfl
  · exact key [.int .u32 x, .int .u32 y] _ x y rfl (by simp) (by intro j z hz; match j, hz with | 0, hz => (simp at hz; exact ⟨x, hz.symm, rfl⟩) | 1, hz => (simp at hz; exact ⟨y, hz.symm, rfl⟩)) rfl
end Go.Proofs.Ytafmacngboeanaa
