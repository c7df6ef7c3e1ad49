/- Texts of this claim, put together: H1, H3, Lad, Rc, Cp1, Cp2, Cp3. -/
import Derived.Test.YtkbaghblchlcnaaD13
import Derived.Laws.Rows
import Derived.Laws.Tables
import Derived.Test.YtkbaghblchlcnaaD11
import Derived.Laws.CopyRow
import Derived.Deep.MidRow
import Derived.Deep.RegionHeld3
import Derived.Deep.QuietTactic
import Derived.BigQuiet
import Derived.Deep.RegionWith
namespace Go.Proofs.Ytkbaghblchlcnaa
open Go.RowKit Go.Shelf
attribute [local go_sem] Oper.semAt_some
/-- what runs highest, and its group -/
def top (a b : Int) : Int × Int := (allL a b).headD (255, 0)
set_option maxRecDepth 100000 in
set_option maxHeartbeats 1000000 in
theorem Running_c (a b : Int) (w : World) : Calls Try.prog 70 #[(.agg #[.int .u32 a, .int .u32 b])] w fun e w' => e = .returned (.tuple #[.int .i64 (top a b).1, .int .i64 (top a b).2]) ∧ Below w.heap.size w w' := by
  refine calls_of_wide ?_
  refine callsIn_of_wp_marks Try.func70 rfl trivial ?_ rfl
  simp only [Try.ntmps70, List.size_toArray, List.length_cons, List.length_nil, Nat.reduceAdd, Nat.reduceSub, Array.replicate_succ, Array.replicate_zero, List.push_toArray, List.append_toArray, List.nil_append, List.cons_append]
  gi_wp2_with (gi_at_call 91; refine (in_of_calls (All_c _ _ _)).mono ?_; rintro e w' ⟨rfl, rfl⟩)
  have hB0 : Below w.heap.size w ((((w.alloc (.cells #[.int .u32 a, .int .u32 b] 33)).alloc (.cells #[.int .i64 0] 3)).alloc (.cells #[.int .i64 0] 3)).alloc (.cells #[.int .u32 a, .int .u32 b] 33)) :=
    ((((Below.refl _ w).alloc (Nat.le_refl _) _).alloc (by simp) _).alloc (by simp; omega) _).alloc (by simp; omega) _
  have b2 : Boxed ((((w.alloc (.cells #[.int .u32 a, .int .u32 b] 33)).alloc (.cells #[.int .i64 0] 3)).alloc (.cells #[.int .i64 0] 3)).alloc (.cells #[.int .u32 a, .int .u32 b] 33)) (w.heap.size + 1) 3 (.int .i64 0) := by
    have := (((Boxed.new (w.alloc (.cells #[.int .u32 a, .int .u32 b] 33)) 3 (.int .i64 0)).alloc (.cells #[.int .i64 0] 3)).alloc (.cells #[.int .u32 a, .int .u32 b] 33)); rwa [World.size_alloc] at this
  have b3 : Boxed ((((w.alloc (.cells #[.int .u32 a, .int .u32 b] 33)).alloc (.cells #[.int .i64 0] 3)).alloc (.cells #[.int .i64 0] 3)).alloc (.cells #[.int .u32 a, .int .u32 b] 33)) (w.heap.size + 2) 3 (.int .i64 0) := by
    have := ((Boxed.new ((w.alloc (.cells #[.int .u32 a, .int .u32 b] 33)).alloc (.cells #[.int .i64 0] 3)) 3 (.int .i64 0)).alloc (.cells #[.int .u32 a, .int .u32 b] 33)); simpa using this
  have b4 : BoxN ((((w.alloc (.cells #[.int .u32 a, .int .u32 b] 33)).alloc (.cells #[.int .i64 0] 3)).alloc (.cells #[.int .i64 0] 3)).alloc (.cells #[.int .u32 a, .int .u32 b] 33)) (w.heap.size + 3) 33 #[.int .u32 a, .int .u32 b] := by
    have := BoxN.new (((w.alloc (.cells #[.int .u32 a, .int .u32 b] 33)).alloc (.cells #[.int .i64 0] 3)).alloc (.cells #[.int .i64 0] 3)) 33 #[.int .u32 a, .int .u32 b]; simpa using this
  have hsz : ((((w.alloc (.cells #[.int .u32 a, .int .u32 b] 33)).alloc (.cells #[.int .i64 0] 3)).alloc (.cells #[.int .i64 0] 3)).alloc (.cells #[.int .u32 a, .int .u32 b] 33)).heap.size = w.heap.size + 4 := by simp
  refine wp_range (Pv := NoCells) (fun _ h => h) rfl (enters_of Try.func99 (by kernel_rfl) rfl) (all_iter NoCells (fun k => k = w.heap.size + 3) (fun _ => False) a b (w.heap.size + 3) _ rfl b4) (Below.refl _ _)
    (fun h k => h.trans k) (KeepsS.put (by simp)) (fun _ => rfl)
    (fun pre W => (pre = [] ∧ Boxed W (w.heap.size + 1) 3 (.int .i64 0) ∧ Boxed W (w.heap.size + 2) 3 (.int .i64 0)) ∧ Below w.heap.size w W)
    (fun c pre W => (c = .ret ∧ ∃ x : Int × Int, pre = [x] ∧ Boxed W (w.heap.size + 1) 3 (.int .i64 x.1) ∧ Boxed W (w.heap.size + 2) 3 (.int .i64 x.2)) ∧ Below w.heap.size w W)
    (((OwnP.const _ _ _).and ((OwnP.box NoCells (by rw [hsz]; omega) 3 _).and (OwnP.box NoCells (by rw [hsz]; omega) 3 _))).and (OwnP.below NoCells (Nat.le_refl _) (by rw [hsz]; omega)))
    (fun c => OwnP.and (fun s W W' row hs hg hr => by
      obtain ⟨hc, x, hx, h1, h2⟩ := hs
      exact ⟨hc, x, hx, h1.kept hg (fun e => by have := (hr _ e.symm).1; omega), h2.kept hg (fun e => by have := (hr _ e.symm).1; omega)⟩) (OwnP.below NoCells (Nat.le_refl _) (by rw [hsz]; omega)))
    ⟨⟨rfl, b2, b3⟩, hB0⟩ ?round ?done ?stop
  case round =>
    rintro l pre x post W hxs hl hlt ⟨⟨rfl, h1, h2⟩, hB⟩
    gi_wp2
    refine ⟨KeepsFrom.refl _ _, KeepsS.refl _ _ _, ⟨⟨by trivial, h1, h2⟩, hB⟩, ?_⟩
    clear h1 h2 hB b2 b3 b4 hB0
    rintro W2 hg ⟨⟨-, h1, h2⟩, hB⟩
    have c1 := h1.cell
    have c2 := h2.cell
    have f1 := h1.frozen
    have f2 := h2.frozen
    gi_wp2
    exact ⟨((KeepsOthers.setCell _ _ _).trans (KeepsOthers.setCell _ _ _)).from _, ⟨rfl, x, rfl, (h1.set _).other (by omega) _, (h2.other (by omega) _).set _⟩,
      (hB.setCell (p := ⟨w.heap.size + 1, 0, none⟩) (by simp) _).setCell (p := ⟨w.heap.size + 1 + 1, 0, none⟩) (by simp; omega) _⟩
  case done =>
    rintro D W hD ⟨⟨hnil, h1, h2⟩, hB⟩ hK
    have c1 := h1.cell
    have c2 := h2.cell
    have f1 := h1.frozen
    have f2 := h2.frozen
    gi_wp2
    have hK2 := ((KeepsOthers.setCell W ⟨w.heap.size + 1, 0, none⟩ (.int .i64 255)).trans (KeepsOthers.setCell _ ⟨w.heap.size + 1 + 1, 0, none⟩ (.int .i64 0))).same D _ hK rfl
    have d1 := (boxed_putD ((h1.set (.int .i64 255)).other (B' := w.heap.size + 1 + 1) (by omega) (.int .i64 0)) (D := D) (by omega) (.deferred none)).cell
    have d2 := (boxed_putD ((h2.other (B' := w.heap.size + 1) (by omega) (.int .i64 255)).set (.int .i64 0)) (D := D) (by omega) (.deferred none)).cell
    refine leave_mark hK2 (v := .tuple #[.int .i64 255, .int .i64 0]) (by simp [results, Try.results70, go_sem, d1, d2]) ⟨?_, ?_⟩
    · rw [top, hnil]; rfl
    · exact below_putD ((hB.setCell (p := ⟨w.heap.size + 1, 0, none⟩) (by simp) _).setCell (p := ⟨w.heap.size + 1 + 1, 0, none⟩) (by simp; omega) _) (by omega) _
  case stop =>
    rintro D c pre x post W hxs hD ⟨⟨rfl, y, hy, h1, h2⟩, hB⟩ hK
    gi_wp2
    obtain ⟨rfl, rfl⟩ : pre = [] ∧ x = y := by
      cases pre with
      | nil => simpa using hy
      | cons z zs => simp at hy
    have d1 := (boxed_putD h1 (D := D) (by omega) (.deferred none)).cell
    have d2 := (boxed_putD h2 (D := D) (by omega) (.deferred none)).cell
    refine leave_mark hK (v := .tuple #[.int .i64 x.1, .int .i64 x.2]) (by simp [results, Try.results70, go_sem, d1, d2]) ⟨?_, ?_⟩
    · rw [top, hxs]; rfl
    · exact below_putD hB (by omega) _
theorem mem_allUpto (a b : Int) (n : Nat) (x : Int × Int) (h : x ∈ allUpto a b n) : ∃ i, i < n ∧ rb a b i = true ∧ x = ((8 * (i / 2 : Nat) : Int), ((i % 2 : Nat) : Int)) := by
  induction n with
  | zero => simp [allUpto] at h
  | succ n ih =>
    rw [allUpto, List.mem_append] at h
    rcases h with h | h
    · obtain ⟨i, h1, h2, h3⟩ := ih h
      exact ⟨i, by omega, h2, h3⟩
    · unfold cell at h
      split at h
      · simp at h; exact ⟨n, by omega, by assumption, h⟩
      · simp at h
theorem mem_allL (a b : Int) (x : Int × Int) (h : x ∈ allL a b) : ∃ (k : Nat) (g : Int), k < 32 ∧ (g = 0 ∨ g = 1) ∧ x = ((8 * k : Int), g) ∧ (g = 0 → tb a k = true) ∧ (g = 1 → tb b k = true) := by
  obtain ⟨i, h1, h2, h3⟩ := mem_allUpto a b 64 x h
  refine ⟨i / 2, ((i % 2 : Nat) : Int), by omega, by omega, h3, fun h => ?_, fun h => ?_⟩
  · rw [rb, if_pos (by omega)] at h2; exact h2
  · rw [rb, if_neg (by omega)] at h2; exact h2
/-- the ladder behind letting the highest go -/
def dropA (a b : Int) : Int := match allL a b with | [] => a | x :: _ => if x.2 = 0 then bits .andNot .u32 a (2 ^ (x.1 / 8).toNat) else a
def dropB (a b : Int) : Int := match allL a b with | [] => b | x :: _ => if x.2 = 0 then b else bits .andNot .u32 b (2 ^ (x.1 / 8).toNat)
def some? (a b : Int) : Bool := !(allL a b).isEmpty
set_option maxRecDepth 100000 in
set_option maxHeartbeats 1000000 in
theorem Drop_c (a b : Int) (w : World) : Calls Try.prog 73 #[.agg #[.int .u32 a, .int .u32 b]] w fun e w' => e = .returned (.tuple #[.agg #[.int .u32 (dropA a b), .int .u32 (dropB a b)], .bool (some? a b)]) ∧ Below w.heap.size w w' := by
  refine calls_of_wide ?_
  refine callsIn_of_wp_marks Try.func73 rfl trivial ?_ rfl
  simp only [Try.ntmps73, List.size_toArray, List.length_cons, List.length_nil, Nat.reduceAdd, Nat.reduceSub, Array.replicate_succ, Array.replicate_zero, List.push_toArray, List.append_toArray, List.nil_append, List.cons_append]
  gi_wp2_with (gi_at_call 91; refine (in_of_calls (All_c _ _ _)).mono ?_; rintro e w' ⟨rfl, rfl⟩)
  have hB0 : Below w.heap.size w ((((w.alloc (.cells #[.int .u32 a, .int .u32 b] 33)).alloc (.cells #[.int .u32 0, .int .u32 0] 33)).alloc (.cells #[.bool false] 4)).alloc (.cells #[.int .u32 a, .int .u32 b] 33)) :=
    ((((Below.refl _ w).alloc (Nat.le_refl _) _).alloc (by simp) _).alloc (by simp; omega) _).alloc (by simp; omega) _
  have b1 : BoxN ((((w.alloc (.cells #[.int .u32 a, .int .u32 b] 33)).alloc (.cells #[.int .u32 0, .int .u32 0] 33)).alloc (.cells #[.bool false] 4)).alloc (.cells #[.int .u32 a, .int .u32 b] 33)) w.heap.size 33 #[.int .u32 a, .int .u32 b] :=
    (((BoxN.new w 33 #[.int .u32 a, .int .u32 b]).alloc _).alloc _).alloc _
  have b2 : BoxN ((((w.alloc (.cells #[.int .u32 a, .int .u32 b] 33)).alloc (.cells #[.int .u32 0, .int .u32 0] 33)).alloc (.cells #[.bool false] 4)).alloc (.cells #[.int .u32 a, .int .u32 b] 33)) (w.heap.size + 1) 33 #[.int .u32 0, .int .u32 0] := by
    have := (((BoxN.new (w.alloc (.cells #[.int .u32 a, .int .u32 b] 33)) 33 #[.int .u32 0, .int .u32 0]).alloc (.cells #[.bool false] 4)).alloc (.cells #[.int .u32 a, .int .u32 b] 33)); rwa [World.size_alloc] at this
  have b3 : Boxed ((((w.alloc (.cells #[.int .u32 a, .int .u32 b] 33)).alloc (.cells #[.int .u32 0, .int .u32 0] 33)).alloc (.cells #[.bool false] 4)).alloc (.cells #[.int .u32 a, .int .u32 b] 33)) (w.heap.size + 2) 4 (.bool false) := by
    have := ((Boxed.new ((w.alloc (.cells #[.int .u32 a, .int .u32 b] 33)).alloc (.cells #[.int .u32 0, .int .u32 0] 33)) 4 (.bool false)).alloc (.cells #[.int .u32 a, .int .u32 b] 33)); simpa using this
  have b4 : BoxN ((((w.alloc (.cells #[.int .u32 a, .int .u32 b] 33)).alloc (.cells #[.int .u32 0, .int .u32 0] 33)).alloc (.cells #[.bool false] 4)).alloc (.cells #[.int .u32 a, .int .u32 b] 33)) (w.heap.size + 3) 33 #[.int .u32 a, .int .u32 b] := by
    have := BoxN.new (((w.alloc (.cells #[.int .u32 a, .int .u32 b] 33)).alloc (.cells #[.int .u32 0, .int .u32 0] 33)).alloc (.cells #[.bool false] 4)) 33 #[.int .u32 a, .int .u32 b]; simpa using this
  have hsz : ((((w.alloc (.cells #[.int .u32 a, .int .u32 b] 33)).alloc (.cells #[.int .u32 0, .int .u32 0] 33)).alloc (.cells #[.bool false] 4)).alloc (.cells #[.int .u32 a, .int .u32 b] 33)).heap.size = w.heap.size + 4 := by simp
  refine wp_range (Pv := NoCells) (fun _ h => h) rfl (enters_of Try.func99 (by kernel_rfl) rfl) (all_iter NoCells (fun k => k = w.heap.size + 3) (fun _ => False) a b (w.heap.size + 3) _ rfl b4) (Below.refl _ _)
    (fun h k => h.trans k) (KeepsS.put (by simp)) (fun _ => rfl)
    (fun pre W => (pre = [] ∧ BoxN W w.heap.size 33 #[.int .u32 a, .int .u32 b] ∧ BoxN W (w.heap.size + 1) 33 #[.int .u32 0, .int .u32 0] ∧ Boxed W (w.heap.size + 2) 4 (.bool false)) ∧ Below w.heap.size w W)
    (fun c pre W => (c = .ret ∧ ∃ x : Int × Int, pre = [x] ∧ BoxN W (w.heap.size + 1) 33 #[.int .u32 (dropA a b), .int .u32 (dropB a b)] ∧ Boxed W (w.heap.size + 2) 4 (.bool true)) ∧ Below w.heap.size w W)
    (((OwnP.const _ _ _).and ((OwnP.boxN NoCells (by rw [hsz]; omega) 33 _).and ((OwnP.boxN NoCells (by rw [hsz]; omega) 33 _).and (OwnP.box NoCells (by rw [hsz]; omega) 4 _)))).and (OwnP.below NoCells (Nat.le_refl _) (by rw [hsz]; omega)))
    (fun c => OwnP.and (fun s W W' row hs hg hr => by
      obtain ⟨hc, x, hx, h1, h2⟩ := hs
      exact ⟨hc, x, hx, h1.kept hg (fun e => by have := (hr _ e.symm).1; omega), h2.kept hg (fun e => by have := (hr _ e.symm).1; omega)⟩) (OwnP.below NoCells (Nat.le_refl _) (by rw [hsz]; omega)))
    ⟨⟨rfl, b1, b2, b3⟩, hB0⟩ ?round ?done ?stop
  case round =>
    rintro l pre x post W hxs hl hlt ⟨⟨rfl, h0, h1, h2⟩, hB⟩
    obtain ⟨k, g, hk, hg01, rfl, hg0, hg1⟩ := mem_allL a b x (by rw [hxs]; simp)
    have hdA : dropA a b = if g = 0 then bits .andNot .u32 a (2 ^ k) else a := by
      unfold dropA; rw [hxs]; simp only [List.nil_append]; rw [show ((8 * (k : Int)) / 8).toNat = k by omega]
    have hdB : dropB a b = if g = 0 then b else bits .andNot .u32 b (2 ^ k) := by
      unfold dropB; rw [hxs]; simp only [List.nil_append]; rw [show ((8 * (k : Int)) / 8).toNat = k by omega]
    gi_wp2
    refine ⟨KeepsFrom.refl _ _, KeepsS.refl _ _ _, ⟨⟨by trivial, h0, h1, h2⟩, hB⟩, ?_⟩
    clear h0 h1 h2 hB b1 b2 b3 b4 hB0
    rintro W2 hg ⟨⟨-, h0, h1, h2⟩, hB⟩
    have c0 := h0.cell (i := 0) rfl
    have c0' := h0.cell (i := 1) rfl
    have f0 := h0.frozen 0
    have f0' := h0.frozen 1
    have c1 := h1.cell (i := 0) rfl
    have c1' := h1.cell (i := 1) rfl
    have f1 := h1.frozen 0
    have f1' := h1.frozen 1
    have c2 := h2.cell
    have f2 := h2.frozen
    clear hl hlt hg
    have HA := Lib.hid hdA
    have HBB := Lib.hid hdB
    clear hdA hdB hxs hg0 hg1
    have hp := pow32 k hk
    clear hsz
    rcases hg01 with rfl | rfl
    · rw [if_pos rfl] at HA HBB
      gi_wp2
      refine ⟨(((KeepsOthers.setCell _ _ _).trans (KeepsOthers.setCell _ _ _)).trans ((KeepsOthers.setCell _ _ _).trans (KeepsOthers.setCell _ _ _))).from _, ⟨rfl, (8 * (k : Int), 0), rfl, ?_, ?_⟩, ?_⟩
      · have z := boxN_other (((boxN_other h1 ⟨w.heap.size, 0, none⟩ (by simp) (.int .u32 (bits .andNot .u32 a (2 ^ k)))).set 0 (.int .u32 (bits .andNot .u32 a (2 ^ k)))).set 1 (.int .u32 b)) ⟨w.heap.size + 1 + 1, 0, none⟩ (by simp) (.bool true)
        rw [HA.out, HBB.out]
        exact z
      · exact ((((boxed_other h2 _ (by simp) _)).other (B' := w.heap.size + 1) (by omega) _) |> fun z => (boxed_other z ⟨w.heap.size + 1, 1, none⟩ (by simp) _)).set _
      · exact (((hB.setCell (p := ⟨w.heap.size, 0, none⟩) (by simp) _).setCell (p := ⟨w.heap.size + 1, 0, none⟩) (by simp) _).setCell (p := ⟨w.heap.size + 1, 1, none⟩) (by simp) _).setCell (p := ⟨w.heap.size + 1 + 1, 0, none⟩) (by simp; omega) _
    · rw [if_neg (by decide)] at HA HBB
      gi_wp2
      refine ⟨(((KeepsOthers.setCell _ _ _).trans (KeepsOthers.setCell _ _ _)).trans ((KeepsOthers.setCell _ _ _).trans (KeepsOthers.setCell _ _ _))).from _, ⟨rfl, (8 * (k : Int), 1), rfl, ?_, ?_⟩, ?_⟩
      · have z := boxN_other (((boxN_other h1 ⟨w.heap.size, 1, none⟩ (by simp) (.int .u32 (bits .andNot .u32 b (2 ^ k)))).set 0 (.int .u32 a)).set 1 (.int .u32 (bits .andNot .u32 b (2 ^ k)))) ⟨w.heap.size + 1 + 1, 0, none⟩ (by simp) (.bool true)
        rw [HA.out, HBB.out]
        exact z
      · exact ((((boxed_other h2 _ (by simp) _)).other (B' := w.heap.size + 1) (by omega) _) |> fun z => (boxed_other z ⟨w.heap.size + 1, 1, none⟩ (by simp) _)).set _
      · exact (((hB.setCell (p := ⟨w.heap.size, 1, none⟩) (by simp) _).setCell (p := ⟨w.heap.size + 1, 0, none⟩) (by simp) _).setCell (p := ⟨w.heap.size + 1, 1, none⟩) (by simp) _).setCell (p := ⟨w.heap.size + 1 + 1, 0, none⟩) (by simp; omega) _
  case done =>
    rintro D W hD ⟨⟨hnil, h0, h1, h2⟩, hB⟩ hK
    have c0 := h0.cell (i := 0) rfl
    have c0' := h0.cell (i := 1) rfl
    have c1 := h1.cell (i := 0) rfl
    have c1' := h1.cell (i := 1) rfl
    have f1 := h1.frozen 0
    have f1' := h1.frozen 1
    have c2 := h2.cell
    have f2 := h2.frozen
    clear hsz
    simp at hD
    gi_wp2
    have hK2 := (((KeepsOthers.setCell W ⟨w.heap.size + 1, 0, none⟩ (.int .u32 a)).trans (KeepsOthers.setCell _ ⟨w.heap.size + 1, 1, none⟩ (.int .u32 b))).trans (KeepsOthers.setCell _ ⟨w.heap.size + 1 + 1, 0, none⟩ (.bool false))).same D _ hK rfl
    have z1 := boxN_putD (boxN_other ((h1.set 0 (.int .u32 a)).set 1 (.int .u32 b)) ⟨w.heap.size + 1 + 1, 0, none⟩ (by simp) (.bool false)) (D := D) (by omega) (.deferred none)
    have d1 := z1.cell (i := 0) rfl
    have d1' := z1.cell (i := 1) rfl
    have d2 := (boxed_putD ((boxed_other (boxed_other h2 ⟨w.heap.size + 1, 0, none⟩ (by simp) (.int .u32 a)) ⟨w.heap.size + 1, 1, none⟩ (by simp) (.int .u32 b)).set (.bool false)) (D := D) (by omega) (.deferred none)).cell
    refine leave_mark hK2 (v := .tuple #[.agg #[.int .u32 a, .int .u32 b], .bool false]) (by simp [results, Try.results73, go_sem, d1, d1', d2]) ⟨?_, ?_⟩
    · unfold dropA dropB some?; rw [hnil]; rfl
    · exact below_putD (((hB.setCell (p := ⟨w.heap.size + 1, 0, none⟩) (by simp) _).setCell (p := ⟨w.heap.size + 1, 1, none⟩) (by simp) _).setCell (p := ⟨w.heap.size + 1 + 1, 0, none⟩) (by simp; omega) _) (by omega) _
  case stop =>
    rintro D c pre x post W hxs hD ⟨⟨rfl, y, hy, h1, h2⟩, hB⟩ hK
    clear hsz
    simp at hD
    gi_wp2
    have z1 := boxN_putD h1 (D := D) (by omega) (.deferred none)
    have d1 := z1.cell (i := 0) rfl
    have d1' := z1.cell (i := 1) rfl
    have d2 := (boxed_putD h2 (D := D) (by omega) (.deferred none)).cell
    refine leave_mark hK (v := .tuple #[.agg #[.int .u32 (dropA a b), .int .u32 (dropB a b)], .bool true]) (by simp [results, Try.results73, go_sem, d1, d1', d2]) ⟨?_, ?_⟩
    · unfold some?; rw [hxs]; simp
    · exact below_putD hB (by omega) _
end Go.Proofs.Ytkbaghblchlcnaa
namespace Go.Proofs.Ytkbaghblchlcnaa
open Go.RowKit Go.Shelf
theorem and1 (x : Int) : bits .and .i64 x 1 = x % 2 := and_low x 1 (by decide)
theorem u255 (p : Int) : bits .and .u64 (IntKind.u64.wrap p) 255 = p % 256 := by
  rw [show (255 : Int) = 2 ^ 8 - 1 from rfl, and_low_u _ 8 (by decide), wrap_u64_eq]; omega
/-- a priority's place -/
def pl (p : Int) : Nat := (p % 256 / 8).toNat
theorem pl_lt (p : Int) : pl p < 32 := by unfold pl; omega
theorem pl_is (p : Int) : bits .and .u64 (IntKind.u64.wrap p) 255 / 8 = (pl p : Int) := by rw [u255]; unfold pl; omega
def setA (op : BinOp) (a g p : Int) : Int := if g % 2 = 0 then bits op .u32 a (2 ^ pl p) else a
def setB (op : BinOp) (b g p : Int) : Int := if g % 2 = 0 then b else bits op .u32 b (2 ^ pl p)
def has (a b g p : Int) : Bool := tb (if g % 2 = 0 then a else b) (pl p)
theorem mod2 (g : Int) : g % 2 = 0 ∨ g % 2 = 1 := by omega
set_option maxRecDepth 100000 in
theorem Push_c (a b g p : Int) (w : World) : Calls Try.prog 68 #[.agg #[.int .u32 a, .int .u32 b], .int .i64 g, .int .i64 p] w fun e w' => e = .returned (.agg #[.int .u32 (setA .or a g p), .int .u32 (setB .or b g p)]) ∧ Below w.heap.size w w' := by
  have hj := pl_is p
  have hl := pl_lt p
  have hp := pow32 (pl p) hl
  have hA : setA .or a g p = if g % 2 = 0 then bits .or .u32 a (2 ^ pl p) else a := rfl
  have hB : setB .or b g p = if g % 2 = 0 then b else bits .or .u32 b (2 ^ pl p) := rfl
  generalize pl p = j at *
  have h1 := and1 g
  rcases mod2 g with h | h
  · rw [h, if_pos rfl] at hA hB
    rw [h] at h1
    have HA := Lib.hid hA
    have HB := Lib.hid hB
    clear hA hB h
    go_enter Try.func68, Try.ntmps68
    go_wp2
    rw [HA.out, HB.out]
    exact bodyPost_ret (v := .agg #[.int .u32 (bits .or .u32 a (2 ^ j)), .int .u32 (b)]) (by simp [results, Try.results68, go_sem]) rfl ⟨rfl, ((Below.refl _ w).alloc (Nat.le_refl _) _).alloc (by simp) _⟩
  · rw [h, if_neg (by decide)] at hA hB
    rw [h] at h1
    have HA := Lib.hid hA
    have HB := Lib.hid hB
    clear hA hB h
    go_enter Try.func68, Try.ntmps68
    go_wp2
    rw [HA.out, HB.out]
    exact bodyPost_ret (v := .agg #[.int .u32 (a), .int .u32 (bits .or .u32 b (2 ^ j))]) (by simp [results, Try.results68, go_sem]) rfl ⟨rfl, ((Below.refl _ w).alloc (Nat.le_refl _) _).alloc (by simp) _⟩
end Go.Proofs.Ytkbaghblchlcnaa
namespace Go.Proofs.Ytkbaghblchlcnaa
open Go.RowKit Go.Shelf
/-- 64 bools -/
def Lb (f : Nat → Bool) : Array Value := ((List.range 64).map fun i => Value.bool (f i)).toArray
theorem Lb_size (f : Nat → Bool) : (Lb f).size = 64 := by simp [Lb]
theorem Lb_get (f : Nat → Bool) (i : Nat) (h : i < 64) : (Lb f)[i]? = some (.bool (f i)) := by simp [Lb, List.getElem?_range h]
theorem Lb_at {f : Nat → Bool} {i : Nat} {h : i < (Lb f).size} : (Lb f)[i] = .bool (f i) := by
  have := Lb_get f i (by rw [Lb_size] at h; exact h)
  rw [Array.getElem?_eq_some_iff] at this
  exact this.2
theorem Lb_one (f : Nat → Bool) : (Lb f).all (·.oneCell') = true := by
  rw [Array.all_eq_true]
  intro i hi
  rw [Lb_size] at hi
  have h := Lb_get f i hi
  rw [Array.getElem?_eq_some_iff] at h
  obtain ⟨_, h⟩ := h
  rw [h]; rfl
theorem Lb_ext {f g : Nat → Bool} (h : ∀ i, i < 64 → f i = g i) : Lb f = Lb g := by
  unfold Lb
  congr 1
  apply List.map_congr_left
  intro i hi
  rw [h i (by simpa using hi)]
theorem Lb_set (f : Nat → Bool) (i : Nat) (v : Bool) : (Lb f).setIfInBounds i (.bool v) = Lb (fun j => if j = i then v else f j) := by
  apply Array.ext_getElem?
  intro j
  by_cases hj : j < 64
  · rw [Array.getElem?_setIfInBounds, Lb_get _ j hj, Lb_get _ j hj, Lb_size]
    by_cases e : i = j
    · subst e; simp [hj]
    · simp [e, show ¬ j = i from fun h => e h.symm]
  · rw [Array.getElem?_eq_none (by rw [Array.size_setIfInBounds, Lb_size]; omega), Array.getElem?_eq_none (by rw [Lb_size]; omega)]
theorem Lb_false : Lb (fun _ => false) = #[.bool false, .bool false, .bool false, .bool false, .bool false, .bool false, .bool false, .bool false, .bool false, .bool false, .bool false, .bool false, .bool false, .bool false, .bool false, .bool false, .bool false, .bool false, .bool false, .bool false, .bool false, .bool false, .bool false, .bool false, .bool false, .bool false, .bool false, .bool false, .bool false, .bool false, .bool false, .bool false, .bool false, .bool false, .bool false, .bool false, .bool false, .bool false, .bool false, .bool false, .bool false, .bool false, .bool false, .bool false, .bool false, .bool false, .bool false, .bool false, .bool false, .bool false, .bool false, .bool false, .bool false, .bool false, .bool false, .bool false, .bool false, .bool false, .bool false, .bool false, .bool false, .bool false, .bool false, .bool false] := by kernel_rfl
theorem zero_lad : #[.bool false, .bool false, .bool false, .bool false, .bool false, .bool false, .bool false, .bool false, .bool false, .bool false, .bool false, .bool false, .bool false, .bool false, .bool false, .bool false, .bool false, .bool false, .bool false, .bool false, .bool false, .bool false, .bool false, .bool false, .bool false, .bool false, .bool false, .bool false, .bool false, .bool false, .bool false, .bool false, .bool false, .bool false, .bool false, .bool false, .bool false, .bool false, .bool false, .bool false, .bool false, .bool false, .bool false, .bool false, .bool false, .bool false, .bool false, .bool false, .bool false, .bool false, .bool false, .bool false, .bool false, .bool false, .bool false, .bool false, .bool false, .bool false, .bool false, .bool false, .bool false, .bool false, .bool false, .bool false] = Lb (fun _ => false) := Lb_false.symm
/-- the bits of place i, halved step by step -/
theorem half_bit (a : Int) (k : Nat) : (a / 2 ^ k % 2 == 1) = tb a k := by unfold tb; by_cases h : a / 2 ^ k % 2 = 1 <;> simp [h]
theorem half_step (a : Int) (k : Nat) : a / 2 ^ k / 2 = a / 2 ^ (k + 1) := by rw [Int.ediv_ediv_of_nonneg (by have := Int.pow_pos (n := 2) (m := k) (by decide); omega), Int.pow_succ]
theorem half_range (a : Int) (k : Nat) (h0 : 0 ≤ a) (h1 : a ≤ 4294967295) : 0 ≤ a / 2 ^ k ∧ a / 2 ^ k ≤ 4294967295 := by
  have hp : (2 : Int) ^ k > 0 := Int.pow_pos (by decide)
  refine ⟨Int.ediv_nonneg h0 (by omega), Int.le_trans (Int.ediv_le_self _ h0) h1⟩
/-- the rows of cells, whole: read, written -/
theorem boxN_row {W : World} {B : Nat} {t : TypeId} {vs ws : Array Value} (h : BoxN W B t vs) : BoxN (W.setRow B ws) B t ws := setRow_heap W B vs ws t (0, 0) h
theorem below_row {n : Nat} {a W : World} (h : Below n a W) {B : Nat} (hB : n ≤ B) (ws : Array Value) : Below n a (W.setRow B ws) :=
  ⟨h.os, h.tape, h.output, by simpa using h.size, fun k hk => (setRow_other W B k ws (by omega)).trans (h.block k hk)⟩
theorem boxN_setCell {W : World} {B : Nat} {t : TypeId} {vs : Array Value} (h : BoxN W B t vs) (i : Nat) (v : Value) : BoxN (W.setCell ⟨B, i, none⟩ v) B t (vs.setIfInBounds i v) := h.set i v
end Go.Proofs.Ytkbaghblchlcnaa
namespace Go.Proofs.Ytkbaghblchlcnaa
open Go.RowKit Go.Shelf
def RC (m p0 p1 : Int) (o0 o1 sp : Bool) (f : Nat → Bool) : Array Value := #[.int .i64 m, .int .i64 p0, .int .i64 p1, .bool o0, .bool o1, .bool sp] ++ Lb f
section
variable {m p0 p1 v : Int} {o0 o1 sp b : Bool} {f f' : Nat → Bool}
theorem RC_size : (RC m p0 p1 o0 o1 sp f).size = 70 := by unfold RC; rw [Array.size_append, Lb_size]; rfl
theorem RC_get0 : (RC m p0 p1 o0 o1 sp f)[0]? = some (.int .i64 m) := by unfold RC; rw [Array.getElem?_append_left (by simp)]; rfl
theorem RC_at0 {h : 0 < (RC m p0 p1 o0 o1 sp f).size} : (RC m p0 p1 o0 o1 sp f)[0] = .int .i64 m := by have := RC_get0 (m := m) (p0 := p0) (p1 := p1) (o0 := o0) (o1 := o1) (sp := sp) (f := f); rw [Array.getElem?_eq_getElem h] at this; exact Option.some.inj this
theorem RC_set0 : (RC m p0 p1 o0 o1 sp f).setIfInBounds 0 (.int .i64 v) = RC v p0 p1 o0 o1 sp f := by unfold RC; rw [Array.setIfInBounds_append_left (by simp)]; rfl
theorem RC_get1 : (RC m p0 p1 o0 o1 sp f)[1]? = some (.int .i64 p0) := by unfold RC; rw [Array.getElem?_append_left (by simp)]; rfl
theorem RC_at1 {h : 1 < (RC m p0 p1 o0 o1 sp f).size} : (RC m p0 p1 o0 o1 sp f)[1] = .int .i64 p0 := by have := RC_get1 (m := m) (p0 := p0) (p1 := p1) (o0 := o0) (o1 := o1) (sp := sp) (f := f); rw [Array.getElem?_eq_getElem h] at this; exact Option.some.inj this
theorem RC_set1 : (RC m p0 p1 o0 o1 sp f).setIfInBounds 1 (.int .i64 v) = RC m v p1 o0 o1 sp f := by unfold RC; rw [Array.setIfInBounds_append_left (by simp)]; rfl
theorem RC_get2 : (RC m p0 p1 o0 o1 sp f)[2]? = some (.int .i64 p1) := by unfold RC; rw [Array.getElem?_append_left (by simp)]; rfl
theorem RC_at2 {h : 2 < (RC m p0 p1 o0 o1 sp f).size} : (RC m p0 p1 o0 o1 sp f)[2] = .int .i64 p1 := by have := RC_get2 (m := m) (p0 := p0) (p1 := p1) (o0 := o0) (o1 := o1) (sp := sp) (f := f); rw [Array.getElem?_eq_getElem h] at this; exact Option.some.inj this
theorem RC_set2 : (RC m p0 p1 o0 o1 sp f).setIfInBounds 2 (.int .i64 v) = RC m p0 v o0 o1 sp f := by unfold RC; rw [Array.setIfInBounds_append_left (by simp)]; rfl
theorem RC_get3 : (RC m p0 p1 o0 o1 sp f)[3]? = some (.bool o0) := by unfold RC; rw [Array.getElem?_append_left (by simp)]; rfl
theorem RC_at3 {h : 3 < (RC m p0 p1 o0 o1 sp f).size} : (RC m p0 p1 o0 o1 sp f)[3] = .bool o0 := by have := RC_get3 (m := m) (p0 := p0) (p1 := p1) (o0 := o0) (o1 := o1) (sp := sp) (f := f); rw [Array.getElem?_eq_getElem h] at this; exact Option.some.inj this
theorem RC_set3 : (RC m p0 p1 o0 o1 sp f).setIfInBounds 3 (.bool b) = RC m p0 p1 b o1 sp f := by unfold RC; rw [Array.setIfInBounds_append_left (by simp)]; rfl
theorem RC_get4 : (RC m p0 p1 o0 o1 sp f)[4]? = some (.bool o1) := by unfold RC; rw [Array.getElem?_append_left (by simp)]; rfl
theorem RC_at4 {h : 4 < (RC m p0 p1 o0 o1 sp f).size} : (RC m p0 p1 o0 o1 sp f)[4] = .bool o1 := by have := RC_get4 (m := m) (p0 := p0) (p1 := p1) (o0 := o0) (o1 := o1) (sp := sp) (f := f); rw [Array.getElem?_eq_getElem h] at this; exact Option.some.inj this
theorem RC_set4 : (RC m p0 p1 o0 o1 sp f).setIfInBounds 4 (.bool b) = RC m p0 p1 o0 b sp f := by unfold RC; rw [Array.setIfInBounds_append_left (by simp)]; rfl
theorem RC_get5 : (RC m p0 p1 o0 o1 sp f)[5]? = some (.bool sp) := by unfold RC; rw [Array.getElem?_append_left (by simp)]; rfl
theorem RC_at5 {h : 5 < (RC m p0 p1 o0 o1 sp f).size} : (RC m p0 p1 o0 o1 sp f)[5] = .bool sp := by have := RC_get5 (m := m) (p0 := p0) (p1 := p1) (o0 := o0) (o1 := o1) (sp := sp) (f := f); rw [Array.getElem?_eq_getElem h] at this; exact Option.some.inj this
theorem RC_set5 : (RC m p0 p1 o0 o1 sp f).setIfInBounds 5 (.bool b) = RC m p0 p1 o0 o1 b f := by unfold RC; rw [Array.setIfInBounds_append_left (by simp)]; rfl
theorem RC_ext : (RC m p0 p1 o0 o1 sp f).extract 6 70 = Lb f := by
  unfold RC
  rw [Array.extract_append]
  simp [Lb_size]
theorem RC_one : AllOne (RC m p0 p1 o0 o1 sp f) := by
  unfold AllOne RC
  rw [Array.all_append, Lb_one]; simp [Value.oneCell']
/-- cells 'cs' laid into a row from a place on -/
def spl (cur : Array Value) (o : Nat) (cs : Array Value) : Array Value := (cur.toList.take o ++ cs.toList ++ cur.toList.drop (o + cs.size)).toArray
theorem RC_spl : spl (RC m p0 p1 o0 o1 sp f) 6 (Lb f') = RC m p0 p1 o0 o1 sp f' := by
  unfold spl
  rw [Lb_size]
  have h : (RC m p0 p1 o0 o1 sp f).toList = [Value.int .i64 m, .int .i64 p0, .int .i64 p1, .bool o0, .bool o1, .bool sp] ++ (Lb f).toList := by unfold RC; simp
  rw [h]
  have hl : (Lb f).toList.length = 64 := by have := Lb_size f; simpa using this
  rw [show (6 + 64) = [Value.int .i64 m, .int .i64 p0, .int .i64 p1, .bool o0, .bool o1, .bool sp].length + 64 from rfl, List.drop_append, List.drop_of_length_le (by simp), List.drop_of_length_le (by rw [hl]; simp)]
  rw [List.take_append_of_le_length (by simp)]
  unfold RC
  apply Array.ext'
  simp
end
def offv : Value → Nat
  | .pointer (some a) => a.off
  | _ => 0
theorem offv_ptr {a : Addr} : offv (.pointer (some a)) = a.off := rfl
section
variable {w : World}
theorem run_load_mid_op {P : Program} {ty : TypeId} {n : Nat} {d : TypeDesc} (hu : P.underlying ty = some d) (hd : (match d with | .struct _ | .array _ _ => true | _ => false) = true) (hn : (P.info? ty).map (·.size) = some n) {ρ : Operand → Value} {x : Operand} {dst : Option Tmp} {t0 : TypeId} {pos : String} {af : Array Edge} {gd : Option (Nat × Bool)}
    (hx : ρ x = .pointer (some ⟨blk (ρ x), offv (ρ x), none⟩)) (h : isRow w (blk (ρ x))) (hs : offv (ρ x) + n ≤ (rowAt w (blk (ρ x))).size) :
    (execOp ρ { dst := dst, op := .load ty x, type := t0, pos := pos, after := af, guard := gd }).run P w = .ok (.value (.agg ((rowAt w (blk (ρ x))).extract (offv (ρ x)) (offv (ρ x) + n)))) w := by
  obtain ⟨t, ht⟩ := h.box
  have key := run_loadAt_mid (P := P) w (blk (ρ x)) (offv (ρ x)) ty ((rowAt w (blk (ρ x))).extract (offv (ρ x)) (offv (ρ x) + n)).toList d (by
      intro j v hj
      rw [cell_of_row w _ _ _ t (0, 0) ht]
      rw [Array.getElem?_toList, Array.getElem?_extract] at hj
      split at hj
      · exact hj
      · cases hj) hu (by cases d <;> first | rfl | simp at hd) (by rw [hn]; congr 1; simp; omega)
  rw [← hx] at key
  simp only [execOp, Sem.run_bind, key, Result.andThen_ok, Sem.run_pure, Array.toArray_toList]
theorem run_store_mid_op {P : Program} {ty : TypeId} {n : Nat} (hn : (P.info? ty).map (·.size) = some n) {ρ : Operand → Value} {x y : Operand} {dst : Option Tmp} {t0 : TypeId} {pos : String} {af : Array Edge} {gd : Option (Nat × Bool)}
    (hx : ρ x = .pointer (some ⟨blk (ρ x), offv (ρ x), none⟩)) (hy : ρ y = .agg (aggOf (ρ y))) (h : isRow w (blk (ρ x))) (hs : offv (ρ x) + n ≤ (rowAt w (blk (ρ x))).size) (hc : (aggOf (ρ y)).size = n) (h1 : AllOne (aggOf (ρ y))) :
    (execOp ρ { dst := dst, op := .store ty x y, type := t0, pos := pos, after := af, guard := gd }).run P w = .ok .skip (w.setRow (blk (ρ x)) (spl (rowAt w (blk (ρ x))) (offv (ρ x)) (aggOf (ρ y)))) := by
  obtain ⟨t, ht⟩ := h.box
  generalize aggOf (ρ y) = cs at *
  have h2 := run_storeCells_at P (blk (ρ x)) (offv (ρ x)) t cs.toList 0 (rowAt w (blk (ρ x))) w ht (by simp; omega) (fun v hv => (Array.all_eq_true_iff_forall_mem.1 h1) v (by simpa using hv))
  have key : (Instr.storeAt ty (.pointer (some ⟨blk (ρ x), offv (ρ x), none⟩)) (.agg cs)).run P w = .ok () (w.setRow (blk (ρ x)) (spl (rowAt w (blk (ρ x))) (offv (ρ x)) cs)) := by
    cases hq : P.info? ty with
    | none => simp [hq] at hn
    | some i =>
      have hs' : cs.size = i.size := by simp [hq] at hn; omega
      simp only [Instr.storeAt, Instr.sureAddr, Sem.run_bind, Sem.run_pure, Result.andThen_ok]
      simp [storeVar, sizeOf, typeInfo, hq, Value.cells, hs', h2, spl]
  rw [← hx, ← hy] at key
  simp only [execOp, Sem.run_bind, key, Result.andThen_ok, Sem.run_pure]
end
end Go.Proofs.Ytkbaghblchlcnaa
namespace Go.Proofs.Ytkbaghblchlcnaa
open Go.RowKit Go.Shelf
attribute [local go_sem] Oper.semAt_some
/-- what counts of a priority -/
def realP (p : Int) : Int := p / 8 % 32 * 8
theorem tb_248 (k : Nat) (hk : k < 64) : tb 248 k = decide (3 ≤ k ∧ k < 8) := by
  have : ∀ k : Fin 64, tb 248 k.val = decide (3 ≤ k.val ∧ k.val < 8) := by decide
  exact this ⟨k, hk⟩
theorem tb_realP (p : Int) (k : Nat) : tb (realP p) k = (decide (3 ≤ k ∧ k < 8) && tb p k) := by
  unfold realP
  rw [show p / 8 % 32 * 8 = p % 256 - p % 8 by omega]
  have h8 : p % 8 = p % 2 ^ 3 := rfl
  have h256 : p % 256 = p % 2 ^ 8 := rfl
  by_cases h3 : k < 3
  · have e : tb (p % 256 - p % 8) k = false := by
      unfold tb
      have : (p % 256 - p % 8) = 8 * (p / 8 % 32) := by omega
      rw [this]
      obtain rfl | rfl | rfl : k = 0 ∨ k = 1 ∨ k = 2 := by omega
      all_goals simp; omega
    rw [e, show decide (3 ≤ k ∧ k < 8) = false from decide_eq_false (by omega)]; rfl
  · by_cases h8' : k < 8
    · rw [show decide (3 ≤ k ∧ k < 8) = true from decide_eq_true (by omega), Bool.true_and]
      unfold tb
      congr 1
      apply propext
      obtain rfl | rfl | rfl | rfl | rfl : k = 3 ∨ k = 4 ∨ k = 5 ∨ k = 6 ∨ k = 7 := by omega
      all_goals (simp; omega)
    · rw [show decide (3 ≤ k ∧ k < 8) = false from decide_eq_false (by omega), Bool.false_and]
      unfold tb
      have hp : (2 : Int) ^ 8 ≤ 2 ^ k := by have := Nat.pow_le_pow_right (n := 2) (by decide) (show 8 ≤ k by omega); exact_mod_cast this
      have : (p % 256 - p % 8) / 2 ^ k = 0 := Int.ediv_eq_zero_of_lt (by omega) (by omega)
      rw [this]; rfl
theorem and248 (p : Int) : bits .and .i64 p 248 = realP p := by
  refine ext_i64 (bits_i64_in _ _ _) (by unfold realP; omega) fun k hk => ?_
  rw [tb_and_i _ _ _ hk, tb_248 k hk, tb_realP, Bool.and_comm]
/-- a binary point's mask -/
def fromP (g pt : Int) : Nat := if g = 0 then (pt % 8).toNat + 1 else max 1 (pt % 8).toNat
def maskP (g pt : Int) : Int := 256 - 2 ^ fromP g pt
theorem fromP_le (g pt : Int) : 1 ≤ fromP g pt ∧ fromP g pt ≤ 8 := by unfold fromP; split <;> omega
theorem and7 (x : Int) : bits .and .i64 x 7 = x % 8 := and_low x 3 (by decide)
theorem tbmask (k : Nat) (hk : k ≤ 8) : bits .and .i64 (wrap64 (255 * 2 ^ k)) 255 = 256 - 2 ^ k := by
  have : ∀ k : Fin 9, bits .and .i64 (wrap64 (255 * 2 ^ k.val)) 255 = 256 - 2 ^ k.val := by decide +kernel
  exact this ⟨k, by omega⟩
set_option maxRecDepth 100000 in
set_option maxHeartbeats 1000000 in
theorem Mask_c (g pt : Int) (w : World) : Calls Try.prog 71 #[.int .i64 g, .int .i64 pt] w fun e w' => e = .returned (.int .i64 (maskP g pt)) ∧ w = w' := by
  have h7 := and7 pt
  by_cases hg : g = 0
  · subst hg
    have HM := Lib.hid (show maskP 0 pt = 256 - 2 ^ ((pt % 8).toNat + 1) by unfold maskP fromP; rw [if_pos rfl])
    obtain ⟨b, hb⟩ : ∃ b : Nat, pt % 8 = b := ⟨(pt % 8).toNat, by omega⟩
    have hb8 : b < 8 := by omega
    have HT := Lib.hid (tbmask (b + 1) (by omega))
    rw [hb] at h7 HM
    simp only [Int.toNat_natCast] at HM
    generalize maskP 0 pt = mm at *
    clear hb
    go_enter Try.func71, Try.ntmps71
    go_wp2
    go_ret
    exact ⟨by rw [HM.out, ← HT.out]; rfl, rfl⟩
  · obtain ⟨b, hb⟩ : ∃ b : Nat, pt % 8 = b := ⟨(pt % 8).toNat, by omega⟩
    have hb8 : b < 8 := by omega
    have HM := Lib.hid (show maskP g pt = 256 - 2 ^ (max 1 b) by unfold maskP fromP; rw [if_neg hg, hb]; rfl)
    have hg' : (g == 0) = false := by simpa using hg
    rw [hb] at h7
    generalize maskP g pt = mm at *
    clear hb hg
    by_cases h0 : b = 0
    · subst h0
      have h7' : bits .and .i64 pt 7 = 0 := h7
      clear h7
      go_enter Try.func71, Try.ntmps71
      go_wp2
      go_ret
      exact ⟨by rw [HM.out, show (256 : Int) - 2 ^ (max 1 0) = bits .and .i64 510 255 by decide +kernel]; rfl, rfl⟩
    · by_cases h1 : b = 1
      · subst h1
        have h7' : bits .and .i64 pt 7 = 1 := h7
        clear h7
        go_enter Try.func71, Try.ntmps71
        go_wp2
        go_ret
        exact ⟨by rw [HM.out, show (256 : Int) - 2 ^ (max 1 1) = bits .and .i64 510 255 by decide +kernel]; rfl, rfl⟩
      · have HT := Lib.hid (tbmask b (by omega))
        have hb1 : 1 < b := by omega
        have HMX := Lib.hid (show max 1 b = b by omega)
        clear h0 h1
        go_enter Try.func71, Try.ntmps71
        go_wp2
        go_ret
        exact ⟨by rw [HM.out, HMX.out, ← HT.out]; rfl, rfl⟩
theorem Real_c (p : Int) (w : World) : Calls Try.prog 76 #[.int .i64 p] w fun e w' => e = .returned (.int .i64 (realP p)) ∧ w = w' := by
  have HR := Lib.hid (and248 p)
  generalize realP p = rr at *
  go_enter Try.func76, Try.ntmps76
  go_wp2
  go_ret
  exact ⟨by rw [← HR.out]; rfl, rfl⟩
theorem Passes_c (p m : Int) (w : World) : Calls Try.prog 42 #[.int .i64 p, .int .i64 m] w fun e w' => e = .returned (.bool (decide (p < m))) ∧ w = w' := by
  go_enter Try.func42, Try.ntmps42
  go_wp2
  go_ret
  exact ⟨rfl, rfl⟩
theorem Preempts_c (p r m : Int) (w : World) : Calls Try.prog 43 #[.int .i64 p, .int .i64 r, .int .i64 m] w fun e w' => e = .returned (.bool (decide (bits .and .i64 p m < r))) ∧ w = w' := by
  go_enter Try.func43, Try.ntmps43
  go_wp2
  go_ret
  exact ⟨rfl, rfl⟩
theorem bit_is (n : Int) (k : Nat) : (bits .and .i64 (n / 2 ^ k) 1 == 1) = tb n k := by rw [and1]; exact half_bit n k
theorem rbit_c (n : Int) (k : Nat) (hk : k < 64) (w : World) : Calls Try.prog 105 #[.int .i64 n, .int .i64 k] w fun e w' => e = .returned (.bool (tb n k)) ∧ w = w' := by
  have HB := Lib.hid (bit_is n k)
  generalize tb n k = t at *
  go_enter Try.func105, Try.ntmps105
  go_wp2
  go_ret
  exact ⟨by rw [← HB.out]; rfl, rfl⟩
theorem mod_step (n : Int) (k : Nat) : n % 2 ^ (k + 1) = n % 2 ^ k + if tb n k = true then 2 ^ k else 0 := by
  have hp : (2 : Int) ^ k > 0 := Int.pow_pos (by decide)
  have h1 := Int.emod_add_mul_ediv n (2 ^ (k + 1))
  have h2 := Int.emod_add_mul_ediv n (2 ^ k)
  have h3 : n / 2 ^ (k + 1) = n / 2 ^ k / 2 := by rw [Int.pow_succ, Int.ediv_ediv_of_nonneg (by omega)]
  have h4 := Int.emod_add_mul_ediv (n / 2 ^ k) 2
  rw [h3] at h1
  rw [Int.pow_succ] at h1 ⊢
  unfold tb
  generalize (2 : Int) ^ k = P at *
  generalize n / P = q at *
  have h5 : P * 2 * (q / 2) = P * q - P * (q % 2) := by rw [← Int.mul_sub, Int.mul_assoc]; congr 1; omega
  by_cases h : q % 2 = 1
  · simp only [h, decide_true, if_true]; rw [h] at h5; omega
  · have h0 : q % 2 = 0 := by omega
    simp only [h0]
    rw [h0] at h5
    simp
    omega
theorem pow_b (k : Nat) (hk : k ≤ 8) : (0 : Int) < 2 ^ k ∧ (2 : Int) ^ k ≤ 256 := by
  refine ⟨Int.pow_pos (by decide), ?_⟩
  have h : (2 : Int) ^ k ≤ 2 ^ 8 := by have := Nat.pow_le_pow_right (n := 2) (by decide) hk; exact_mod_cast this
  simpa using h
set_option maxRecDepth 100000 in
set_option maxHeartbeats 2000000 in
theorem rReal_c (p : Int) (w : World) : Calls Try.prog 98 #[.int .i64 p] w fun e w' => e = .returned (.int .i64 (realP p)) ∧ w = w' := by
  have HR := Lib.hid (show p % 2 ^ 8 - p % 8 = realP p by unfold realP; omega)
  go_enter Try.func98, Try.ntmps98
  go_wp2
  go_loop [3, 4] (fun n i => ∃ k : Nat, 3 ≤ k ∧ k ≤ 8 ∧ i = .int .i64 k ∧ n = .int .i64 (p % 2 ^ k - p % 8)) (fun _ i => 8 - (intOf i).toNat)
  case atStart => exact ⟨3, by omega, by omega, rfl, by congr 1; omega⟩
  case round =>
    obtain ⟨k, hk3, hk, rfl, rfl⟩ := hrel
    by_cases hlt : k < 8
    · have HS := Lib.hid (mod_step p k)
      obtain ⟨q0, q1⟩ := pow_b k hk
      have hr0 := Int.emod_nonneg p (show (2 : Int) ^ k ≠ 0 by omega)
      have hr1 := Int.emod_lt_of_pos p q0
      have hb8 : 0 ≤ p % 8 := by omega
      have hb9 : p % 8 ≤ 7 := by omega
      have HBT := Lib.hid (fun W : World => rbit_c p k (by omega) W)
      generalize p % 2 ^ k = m at *
      generalize p % 8 = m8 at *
      generalize tb p k = t at *
      cases t
      · go_wp2_with (go_at_call 105; refine (HBT.out _).mono ?_; rintro e w' ⟨rfl, rfl⟩)
        go_round
        case rel => exact ⟨k + 1, by omega, by omega, by go_num, by rw [HS.out]; simp⟩
        case measure => simp [intOf]; omega
      · go_wp2_with (go_at_call 105; refine (HBT.out _).mono ?_; rintro e w' ⟨rfl, rfl⟩)
        go_round
        case rel => exact ⟨k + 1, by omega, by omega, by go_num, by rw [HS.out]; simp; omega⟩
        case measure => simp [intOf]; omega
    · have hk8 : k = 8 := by omega
      have HP := Lib.hid (show p % 2 ^ k - p % 8 = realP p by rw [hk8]; exact HR.out)
      clear hk8
      go_wp2
      go_ret
      exact ⟨by rw [← HP.out]; rfl, rfl⟩
set_option maxRecDepth 100000 in
set_option maxHeartbeats 4000000 in
theorem rMask_c (g pt : Int) (w : World) : Calls Try.prog 107 #[.int .i64 g, .int .i64 pt] w fun e w' => e = .returned (.int .i64 (maskP g pt)) ∧ w = w' := by
  have hF := fromP_le g pt
  have HF := Lib.hid (show fromP g pt = if g = 0 then (pt % 8).toNat + 1 else max 1 (pt % 8).toNat from rfl)
  have HM := Lib.hid (show maskP g pt = 256 - 2 ^ fromP g pt from rfl)
  generalize maskP g pt = mm at *
  generalize fromP g pt = fr at *
  obtain ⟨hf1, hf8⟩ := hF
  go_enter Try.func107, Try.ntmps107
  go_wp2
  go_loop [5, 6] (fun n i => ∃ k : Nat, k ≤ 3 ∧ i = .int .i64 k ∧ n = .int .i64 (pt % 2 ^ k)) (fun _ i => 3 - (intOf i).toNat)
  case atStart => exact ⟨0, by omega, rfl, by congr 1; omega⟩
  case round =>
    obtain ⟨k, hk, rfl, rfl⟩ := hrel
    by_cases hlt : k < 3
    · have HS := Lib.hid (mod_step pt k)
      obtain ⟨q0, q1⟩ := pow_b k (by omega)
      have hr0 := Int.emod_nonneg pt (show (2 : Int) ^ k ≠ 0 by omega)
      have hr1 := Int.emod_lt_of_pos pt q0
      have HBT := Lib.hid (fun W : World => rbit_c pt k (by omega) W)
      generalize pt % 2 ^ k = m at *
      generalize tb pt k = t at *
      cases t
      · go_wp2_with (go_at_call 105; refine (HBT.out _).mono ?_; rintro e w' ⟨rfl, rfl⟩)
        go_round
        case rel => exact ⟨k + 1, by omega, by go_num, by rw [HS.out]; simp⟩
        case measure => simp [intOf]; omega
      · go_wp2_with (go_at_call 105; refine (HBT.out _).mono ?_; rintro e w' ⟨rfl, rfl⟩)
        go_round
        case rel => exact ⟨k + 1, by omega, by go_num, by rw [HS.out]; simp⟩
        case measure => simp [intOf]; omega
    · have hk3 : k = 3 := by omega
      obtain ⟨b, hb⟩ : ∃ b : Nat, pt % 8 = b := ⟨(pt % 8).toNat, by omega⟩
      have hb8 : b < 8 := by omega
      have HP := Lib.hid (show pt % 2 ^ k = (b : Int) by rw [hk3]; exact hb)
      rw [hb, Int.toNat_natCast] at HF
      clear hk3 hb
      rw [HP.out]
      by_cases hg : g = 0
      · subst hg
        have HF' := Lib.hid (show (b : Int) + 1 = (fr : Int) by have := HF.out; simp at this; omega)
        clear HF
        go_wp2_with fail
        go_loop [8, 9] (fun n i => ∃ k : Nat, fr ≤ k ∧ k ≤ 8 ∧ i = .int .i64 k ∧ n = .int .i64 (2 ^ k - 2 ^ fr)) (fun _ i => 8 - (intOf i).toNat)
        case atStart => exact ⟨fr, by omega, by omega, by rw [HF'.out], by go_num⟩
        case round =>
          obtain ⟨k2, hk0, hk2, rfl, rfl⟩ := hrel
          have HST := Lib.hid (show (2 : Int) ^ (k2 + 1) = 2 * 2 ^ k2 by rw [Int.pow_succ]; omega)
          obtain ⟨q0, q1⟩ := pow_b k2 hk2
          obtain ⟨q2, q3⟩ := pow_b fr hf8
          have HP8 := Lib.hid (fun h : k2 = 8 => show (2 : Int) ^ k2 = 256 by rw [h]; rfl)
          generalize (2 : Int) ^ fr = Q at *
          by_cases hlt2 : k2 < 8
          · go_wp2
            go_round
            case rel => exact ⟨k2 + 1, by omega, by omega, by go_num, by rw [HST.out]; first | rfl | (unfold wrap64; congr 1; omega) | (congr 1; omega)⟩
            case measure => simp [intOf]; omega
          · have hk28 : k2 = 8 := by omega
            have HE := Lib.hid (show (2 : Int) ^ k2 - Q = mm by rw [HM.out, HP8.out hk28])
            clear hk28
            go_wp2
            go_ret
            exact ⟨by rw [← HE.out]; rfl, rfl⟩
      · have hg' : (g == 0) = false := by simpa using hg
        have HF0 := Lib.hid (show max 1 b = fr by have := HF.out; rw [if_neg hg] at this; exact this.symm)
        clear hg HF
        by_cases hb0 : b = 0
        · subst hb0
          have HF' := Lib.hid (show (1 : Int) = (fr : Int) by have := HF0.out; omega)
          go_wp2_with fail
          go_loop [8, 9] (fun n i => ∃ k : Nat, fr ≤ k ∧ k ≤ 8 ∧ i = .int .i64 k ∧ n = .int .i64 (2 ^ k - 2 ^ fr)) (fun _ i => 8 - (intOf i).toNat)
          case atStart => exact ⟨fr, by omega, by omega, by rw [← HF'.out], by go_num⟩
          case round =>
            obtain ⟨k2, hk0, hk2, rfl, rfl⟩ := hrel
            have HST := Lib.hid (show (2 : Int) ^ (k2 + 1) = 2 * 2 ^ k2 by rw [Int.pow_succ]; omega)
            obtain ⟨q0, q1⟩ := pow_b k2 hk2
            obtain ⟨q2, q3⟩ := pow_b fr hf8
            have HP8 := Lib.hid (fun h : k2 = 8 => show (2 : Int) ^ k2 = 256 by rw [h]; rfl)
            generalize (2 : Int) ^ fr = Q at *
            by_cases hlt2 : k2 < 8
            · go_wp2
              go_round
              case rel => exact ⟨k2 + 1, by omega, by omega, by go_num, by rw [HST.out]; first | rfl | (unfold wrap64; congr 1; omega) | (congr 1; omega)⟩
              case measure => simp [intOf]; omega
            · have hk28 : k2 = 8 := by omega
              have HE := Lib.hid (show (2 : Int) ^ k2 - Q = mm by rw [HM.out, HP8.out hk28])
              clear hk28
              go_wp2
              go_ret
              exact ⟨by rw [← HE.out]; rfl, rfl⟩
        · have HF' := Lib.hid (show (b : Int) = (fr : Int) by have := HF0.out; omega)
          have hb0' : ((b : Int) == 0) = false := by simpa using hb0
          clear hb0
          go_wp2_with fail
          go_loop [8, 9] (fun n i => ∃ k : Nat, fr ≤ k ∧ k ≤ 8 ∧ i = .int .i64 k ∧ n = .int .i64 (2 ^ k - 2 ^ fr)) (fun _ i => 8 - (intOf i).toNat)
          case atStart => exact ⟨fr, by omega, by omega, by rw [HF'.out], by go_num⟩
          case round =>
            obtain ⟨k2, hk0, hk2, rfl, rfl⟩ := hrel
            have HST := Lib.hid (show (2 : Int) ^ (k2 + 1) = 2 * 2 ^ k2 by rw [Int.pow_succ]; omega)
            obtain ⟨q0, q1⟩ := pow_b k2 hk2
            obtain ⟨q2, q3⟩ := pow_b fr hf8
            have HP8 := Lib.hid (fun h : k2 = 8 => show (2 : Int) ^ k2 = 256 by rw [h]; rfl)
            generalize (2 : Int) ^ fr = Q at *
            by_cases hlt2 : k2 < 8
            · go_wp2
              go_round
              case rel => exact ⟨k2 + 1, by omega, by omega, by go_num, by rw [HST.out]; first | rfl | (unfold wrap64; congr 1; omega) | (congr 1; omega)⟩
              case measure => simp [intOf]; omega
            · have hk28 : k2 = 8 := by omega
              have HE := Lib.hid (show (2 : Int) ^ k2 - Q = mm by rw [HM.out, HP8.out hk28])
              clear hk28
              go_wp2
              go_ret
              exact ⟨by rw [← HE.out]; rfl, rfl⟩
end Go.Proofs.Ytkbaghblchlcnaa
namespace Go.Proofs.Ytkbaghblchlcnaa
open Go.RowKit Go.Shelf
attribute [local go_sem] Oper.semAt_some cell_row frozen_row isRow_setCell_eq rowAt_setCell_same rowAt_setCell_other isRow_alloc_eq rowAt_alloc rowAt_new isRow_setRow_eq rowAt_setRow_same rowAt_setRow_other isRow_drew rowAt_drew size_setRow_ Lb_size Lb_at blk_ptr aggOf_agg below_alloc_r below_setCell_r below_setRow_r below_drew_r le_add_r
theorem bs {w w' : World} {P : Prop} (h : P ∧ w = w') : P ∧ Below w.heap.size w w' := ⟨h.1, h.2 ▸ Below.refl _ _⟩
def ptP (p0 p1 g : Int) : Int := if g % 2 = 0 then p0 else p1
def onP (o0 o1 : Bool) (g : Int) : Bool := if g % 2 = 0 then o0 else o1
set_option maxRecDepth 100000 in
set_option maxHeartbeats 1000000 in
theorem ifmask_c (m p0 p1 : Int) (o0 o1 sp : Bool) (a b : Int) (g : Int) (w : World) : Calls Try.prog 44 #[.agg #[.int .i64 m, .int .i64 p0, .int .i64 p1, .bool o0, .bool o1, .bool sp, .int .u32 a, .int .u32 b], .int .i64 g] w fun e w' => e = .returned (.int .i64 (maskP (g % 2) (ptP p0 p1 g))) ∧ Below w.heap.size w w' := by
  have h1 := and1 g
  have hB0 : Below w.heap.size w (w.alloc (.cells #[.int .i64 m, .int .i64 p0, .int .i64 p1, .bool o0, .bool o1, .bool sp, .int .u32 a, .int .u32 b] 35)) := (Below.refl _ w).alloc (Nat.le_refl _) _
  rcases mod2 g with h | h
  · rw [h] at h1 ⊢
    rw [show ptP p0 p1 g = p0 by unfold ptP; rw [h]; rfl]
    clear h
    have HM := Lib.hid (fun W : World => Mask_c 0 p0 W)
    generalize maskP 0 p0 = mk at *
    go_enter Try.func44, Try.ntmps44
    go_wp2_with (go_at_call 71; refine (HM.out _).mono ?_; rintro e w' ⟨rfl, rfl⟩)
    go_ret
    exact ⟨rfl, hB0⟩
  · rw [h] at h1 ⊢
    rw [show ptP p0 p1 g = p1 by unfold ptP; rw [h]; rfl]
    clear h
    have HM := Lib.hid (fun W : World => Mask_c 1 p1 W)
    generalize maskP 1 p1 = mk at *
    go_enter Try.func44, Try.ntmps44
    go_wp2_with (go_at_call 71; refine (HM.out _).mono ?_; rintro e w' ⟨rfl, rfl⟩)
    go_ret
    exact ⟨rfl, hB0⟩
set_option maxRecDepth 100000 in
set_option maxHeartbeats 1000000 in
theorem ifrun_c (m p0 p1 : Int) (o0 o1 sp : Bool) (a b : Int) (w : World) : Calls Try.prog 41 #[.agg #[.int .i64 m, .int .i64 p0, .int .i64 p1, .bool o0, .bool o1, .bool sp, .int .u32 a, .int .u32 b]] w fun e w' => e = .returned (.tuple #[.int .i64 (top a b).1, .int .i64 (top a b).2]) ∧ Below w.heap.size w w' := by
  have hB0 : Below w.heap.size w (w.alloc (.cells #[.int .i64 m, .int .i64 p0, .int .i64 p1, .bool o0, .bool o1, .bool sp, .int .u32 a, .int .u32 b] 35)) := (Below.refl _ w).alloc (Nat.le_refl _) _
  have HR := Lib.hid (fun W : World => Running_c a b W)
  generalize (top a b).1 = r1 at *
  generalize (top a b).2 = r2 at *
  go_enter Try.func41, Try.ntmps41
  go_wp2_with (go_at_call 70; refine (HR.out _).mono ?_; rintro e w1 ⟨rfl, hb⟩)
  go_ret2
  exact ⟨rfl, bk hB0 hB0.size hb⟩
/-- does an interrupt come through? -/
def mayP (m p0 p1 : Int) (o0 o1 : Bool) (a b pr gr : Int) (is : Bool) : Bool := is && onP o0 o1 gr && decide (pr < m) && decide (bits .and .i64 pr (maskP (gr % 2) (ptP p0 p1 gr)) < (top a b).1)
set_option maxRecDepth 100000 in
set_option maxHeartbeats 4000000 in
theorem May_c (m p0 p1 : Int) (o0 o1 sp : Bool) (a b : Int) (id pr gr : Int) (is : Bool) (w : World) : Calls Try.prog 20 #[.agg #[.int .i64 m, .int .i64 p0, .int .i64 p1, .bool o0, .bool o1, .bool sp, .int .u32 a, .int .u32 b], .agg #[.int .i64 id, .int .i64 pr, .int .i64 gr, .bool is]] w fun e w' => e = .returned (.bool (mayP m p0 p1 o0 o1 a b pr gr is)) ∧ Below w.heap.size w w' := by
  have h1 := and1 gr
  unfold mayP
  have hRUN := fun W : World => ifrun_c m p0 p1 o0 o1 sp a b W
  have hMK := fun W : World => ifmask_c m p0 p1 o0 o1 sp a b gr W
  have hPS := fun W : World => (Passes_c pr m W).mono fun e w' h => bs h
  have hPQ := fun W : World => (Passes_c pr m W).mono fun e w' (h : e = .returned (.bool (decide (pr < m))) ∧ W = w') => (⟨h.1, h.2.symm⟩ : e = .returned (.bool (decide (pr < m))) ∧ w' = W)
  have hPR := fun W : World => (Preempts_c pr (top a b).1 (maskP (gr % 2) (ptP p0 p1 gr)) W).mono fun e w' h => bs h
  generalize decide (bits .and .i64 pr (maskP (gr % 2) (ptP p0 p1 gr)) < (top a b).1) = t2 at *
  generalize maskP (gr % 2) (ptP p0 p1 gr) = mk at *
  generalize decide (pr < m) = t1 at *
  generalize (top a b).1 = r1 at *
  generalize (top a b).2 = r2 at *
  have HRUN := Lib.hid hRUN
  have HMK := Lib.hid hMK
  have HPS := Lib.hid hPS
  have HPQ := Lib.hid hPQ
  have HPR := Lib.hid hPR
  clear hRUN hMK hPS hPR hPQ
  have hB0 : Below w.heap.size w ((w.alloc (.cells #[.int .i64 m, .int .i64 p0, .int .i64 p1, .bool o0, .bool o1, .bool sp, .int .u32 a, .int .u32 b] 35)).alloc (.cells #[.int .i64 id, .int .i64 pr, .int .i64 gr, .bool is] 47)) := ((Below.refl _ w).alloc (Nat.le_refl _) _).alloc (by simp) _
  obtain ⟨R0, R0'⟩ : Row ((w.alloc (.cells #[.int .i64 m, .int .i64 p0, .int .i64 p1, .bool o0, .bool o1, .bool sp, .int .u32 a, .int .u32 b] 35)).alloc (.cells #[.int .i64 id, .int .i64 pr, .int .i64 gr, .bool is] 47)) w.heap.size #[.int .i64 m, .int .i64 p0, .int .i64 p1, .bool o0, .bool o1, .bool sp, .int .u32 a, .int .u32 b] := ⟨isRow_alloc isRow_new, (rowAt_alloc isRow_new).trans rowAt_new⟩
  obtain ⟨R1, R1'⟩ : Row ((w.alloc (.cells #[.int .i64 m, .int .i64 p0, .int .i64 p1, .bool o0, .bool o1, .bool sp, .int .u32 a, .int .u32 b] 35)).alloc (.cells #[.int .i64 id, .int .i64 pr, .int .i64 gr, .bool is] 47)) (w.heap.size + 1) #[.int .i64 id, .int .i64 pr, .int .i64 gr, .bool is] := by
    have := Row.new (w.alloc (.cells #[.int .i64 m, .int .i64 p0, .int .i64 p1, .bool o0, .bool o1, .bool sp, .int .u32 a, .int .u32 b] 35)) 47 #[.int .i64 id, .int .i64 pr, .int .i64 gr, .bool is]; rwa [World.size_alloc] at this
  have hz := hB0.size
  rcases mod2 gr with h | h
  all_goals
    rw [h] at h1
    simp only [onP, h, if_true, show ¬ ((1 : Int) = 0) by decide, if_false]
    clear h
  · cases is
    · go_enter Try.func20, Try.ntmps20
      go_wp2_with (go_at_call 41; refine (HRUN.out _).mono ?_; rintro e w1 ⟨rfl, hb1⟩; obtain ⟨Q0, Q0'⟩ := Row.step R0 R0' hb1; obtain ⟨Q1, Q1'⟩ := Row.step R1 R1' hb1; have hB1 := bk hB0 hz hb1)
      clear hz hb1
      go_quiet ((go_at_call 42; exact Calls.quiet_of_same (HPQ.out _)))
      all_goals
        go_wp2
        go_ret
        exact ⟨rfl, below_drawn hB1 _⟩
    · cases o0
      · go_enter Try.func20, Try.ntmps20
        go_wp2_with (go_at_call 41; refine (HRUN.out _).mono ?_; rintro e w1 ⟨rfl, hb1⟩; obtain ⟨Q0, Q0'⟩ := Row.step R0 R0' hb1; obtain ⟨Q1, Q1'⟩ := Row.step R1 R1' hb1; have hB1 := bk hB0 hz hb1)
        clear hz hb1
        go_quiet ((go_at_call 42; exact Calls.quiet_of_same (HPQ.out _)))
        all_goals
          go_wp2
          go_ret
          exact ⟨rfl, below_drawn hB1 _⟩
      · cases t1
        · go_enter Try.func20, Try.ntmps20
          go_wp2_with (go_at_call 41; refine (HRUN.out _).mono ?_; rintro e w1 ⟨rfl, hb1⟩; obtain ⟨Q0, Q0'⟩ := Row.step R0 R0' hb1; obtain ⟨Q1, Q1'⟩ := Row.step R1 R1' hb1; have hB1 := bk hB0 hz hb1)
          clear hz hb1
          go_quiet ((go_at_call 42; exact Calls.quiet_of_same (HPQ.out _)))
          all_goals
            go_wp2
            go_ret
            exact ⟨rfl, below_drawn hB1 _⟩
        · go_enter Try.func20, Try.ntmps20
          go_wp2_with (go_at_call 41; refine (HRUN.out _).mono ?_; rintro e w1 ⟨rfl, hb1⟩; obtain ⟨Q0, Q0'⟩ := Row.step R0 R0' hb1; obtain ⟨Q1, Q1'⟩ := Row.step R1 R1' hb1; have hB1 := bk hB0 hz hb1)
          (first | go_region_held3 (fun w' => isRow w' w.heap.size ∧ rowAt w' w.heap.size = #[.int .i64 m, .int .i64 p0, .int .i64 p1, .bool true, .bool o1, .bool sp, .int .u32 a, .int .u32 b] ∧ isRow w' (w.heap.size + 1) ∧ rowAt w' (w.heap.size + 1) = #[.int .i64 id, .int .i64 pr, .int .i64 gr, .bool true] ∧ Below w.heap.size w w') (first | exact ⟨Q0, Q0', Q1, Q1', below_drew0 hB1⟩ | (go_split_ands; exact ⟨rk1 (by assumption) hb, rk2 (by assumption) (by assumption) hb, rk1 (by assumption) hb, rk2 (by assumption) (by assumption) hb, bk (by assumption) (Below.size (by assumption)) hb⟩)) (first | (go_at_call 42; (with_reducible refine (HPS.out _).mono ?_); rintro e w4 ⟨rfl, hb⟩) | (go_at_call 44; (with_reducible refine (HMK.out _).mono ?_); rintro e w4 ⟨rfl, hb⟩) | (go_at_call 43; (with_reducible refine (HPR.out _).mono ?_); rintro e w4 ⟨rfl, hb⟩)) | fail)
          all_goals
            go_split_ands
            go_wp2
            go_ret
            exact ⟨rfl, by assumption⟩
  · cases is
    · go_enter Try.func20, Try.ntmps20
      go_wp2_with (go_at_call 41; refine (HRUN.out _).mono ?_; rintro e w1 ⟨rfl, hb1⟩; obtain ⟨Q0, Q0'⟩ := Row.step R0 R0' hb1; obtain ⟨Q1, Q1'⟩ := Row.step R1 R1' hb1; have hB1 := bk hB0 hz hb1)
      clear hz hb1
      go_quiet ((go_at_call 42; exact Calls.quiet_of_same (HPQ.out _)))
      all_goals
        go_wp2
        go_ret
        exact ⟨rfl, below_drawn hB1 _⟩
    · cases o1
      · go_enter Try.func20, Try.ntmps20
        go_wp2_with (go_at_call 41; refine (HRUN.out _).mono ?_; rintro e w1 ⟨rfl, hb1⟩; obtain ⟨Q0, Q0'⟩ := Row.step R0 R0' hb1; obtain ⟨Q1, Q1'⟩ := Row.step R1 R1' hb1; have hB1 := bk hB0 hz hb1)
        clear hz hb1
        go_quiet ((go_at_call 42; exact Calls.quiet_of_same (HPQ.out _)))
        all_goals
          go_wp2
          go_ret
          exact ⟨rfl, below_drawn hB1 _⟩
      · cases t1
        · go_enter Try.func20, Try.ntmps20
          go_wp2_with (go_at_call 41; refine (HRUN.out _).mono ?_; rintro e w1 ⟨rfl, hb1⟩; obtain ⟨Q0, Q0'⟩ := Row.step R0 R0' hb1; obtain ⟨Q1, Q1'⟩ := Row.step R1 R1' hb1; have hB1 := bk hB0 hz hb1)
          clear hz hb1
          go_quiet ((go_at_call 42; exact Calls.quiet_of_same (HPQ.out _)))
          all_goals
            go_wp2
            go_ret
            exact ⟨rfl, below_drawn hB1 _⟩
        · go_enter Try.func20, Try.ntmps20
          go_wp2_with (go_at_call 41; refine (HRUN.out _).mono ?_; rintro e w1 ⟨rfl, hb1⟩; obtain ⟨Q0, Q0'⟩ := Row.step R0 R0' hb1; obtain ⟨Q1, Q1'⟩ := Row.step R1 R1' hb1; have hB1 := bk hB0 hz hb1)
          (first | go_region_held3 (fun w' => isRow w' w.heap.size ∧ rowAt w' w.heap.size = #[.int .i64 m, .int .i64 p0, .int .i64 p1, .bool o0, .bool true, .bool sp, .int .u32 a, .int .u32 b] ∧ isRow w' (w.heap.size + 1) ∧ rowAt w' (w.heap.size + 1) = #[.int .i64 id, .int .i64 pr, .int .i64 gr, .bool true] ∧ Below w.heap.size w w') (first | exact ⟨Q0, Q0', Q1, Q1', below_drew0 hB1⟩ | (go_split_ands; exact ⟨rk1 (by assumption) hb, rk2 (by assumption) (by assumption) hb, rk1 (by assumption) hb, rk2 (by assumption) (by assumption) hb, bk (by assumption) (Below.size (by assumption)) hb⟩)) (first | (go_at_call 42; (with_reducible refine (HPS.out _).mono ?_); rintro e w4 ⟨rfl, hb⟩) | (go_at_call 44; (with_reducible refine (HMK.out _).mono ?_); rintro e w4 ⟨rfl, hb⟩) | (go_at_call 43; (with_reducible refine (HPR.out _).mono ?_); rintro e w4 ⟨rfl, hb⟩)) | fail)
          all_goals
            go_split_ands
            go_wp2
            go_ret
            exact ⟨rfl, by assumption⟩
def showsP (o0 o1 : Bool) (id gr : Int) (is : Bool) (g : Int) : Int := if is = true ∧ gr = g ∧ onP o0 o1 g = true then id else 1023
set_option maxRecDepth 100000 in
set_option maxHeartbeats 2000000 in
theorem Shows_c (m p0 p1 : Int) (o0 o1 sp : Bool) (a b : Int) (id pr gr : Int) (is : Bool) (g : Int) (w : World) : Calls Try.prog 53 #[.agg #[.int .i64 m, .int .i64 p0, .int .i64 p1, .bool o0, .bool o1, .bool sp, .int .u32 a, .int .u32 b], .agg #[.int .i64 id, .int .i64 pr, .int .i64 gr, .bool is], .int .i64 g] w fun e w' => e = .returned (.int .i64 (showsP o0 o1 id gr is g)) ∧ Below w.heap.size w w' := by
  have h1 := and1 g
  have hB0 : Below w.heap.size w ((w.alloc (.cells #[.int .i64 m, .int .i64 p0, .int .i64 p1, .bool o0, .bool o1, .bool sp, .int .u32 a, .int .u32 b] 35)).alloc (.cells #[.int .i64 id, .int .i64 pr, .int .i64 gr, .bool is] 47)) := ((Below.refl _ w).alloc (Nat.le_refl _) _).alloc (by simp) _
  cases is
  · have HS := Lib.hid (show showsP o0 o1 id gr false g = 1023 by simp [showsP])
    go_enter Try.func53, Try.ntmps53
    go_wp2
    go_ret
    exact ⟨by rw [HS.out]; rfl, hB0⟩
  · by_cases hg : gr = g
    · subst hg
      rcases mod2 gr with h | h
      · rw [h] at h1
        cases o0
        · have HS := Lib.hid (show showsP false o1 id gr true gr = 1023 by simp [showsP, onP, h])
          clear h
          go_enter Try.func53, Try.ntmps53
          go_wp2
          go_ret
          exact ⟨by rw [HS.out]; rfl, hB0⟩
        · have HS := Lib.hid (show showsP true o1 id gr true gr = id by simp [showsP, onP, h])
          clear h
          go_enter Try.func53, Try.ntmps53
          go_wp2
          go_ret
          exact ⟨by rw [HS.out]; rfl, hB0⟩
      · rw [h] at h1
        cases o1
        · have HS := Lib.hid (show showsP o0 false id gr true gr = 1023 by simp [showsP, onP, h])
          clear h
          go_enter Try.func53, Try.ntmps53
          go_wp2
          go_ret
          exact ⟨by rw [HS.out]; rfl, hB0⟩
        · have HS := Lib.hid (show showsP o0 true id gr true gr = id by simp [showsP, onP, h])
          clear h
          go_enter Try.func53, Try.ntmps53
          go_wp2
          go_ret
          exact ⟨by rw [HS.out]; rfl, hB0⟩
    · have HS := Lib.hid (show showsP o0 o1 id gr true g = 1023 by simp [showsP, hg])
      have hg' : (gr == g) = false := by simpa using hg
      clear hg
      go_enter Try.func53, Try.ntmps53
      go_wp2
      go_ret
      exact ⟨by rw [HS.out]; rfl, hB0⟩
def realC (id : Int) : Bool := decide ((0 ≤ id ∧ id ≤ 1019) ∨ (8192 ≤ id ∧ id ≤ 16383))
theorem CReal_c (id : Int) (w : World) : Calls Try.prog 47 #[.int .i64 id] w fun e w' => e = .returned (.bool (realC id)) ∧ w = w' := by
  by_cases h1 : 0 ≤ id
  · by_cases h2 : id < 1020
    · have HS := Lib.hid (show realC id = true from decide_eq_true (by omega))
      generalize realC id = tt at *
      go_enter Try.func47, Try.ntmps47
      go_wp2
      go_ret
      exact ⟨by rw [HS.out]; rfl, rfl⟩
    · by_cases h3 : 8192 ≤ id
      · by_cases h4 : id < 16384
        · have HS := Lib.hid (show realC id = true from decide_eq_true (by omega))
          generalize realC id = tt at *
          go_enter Try.func47, Try.ntmps47
          go_wp2
          go_ret
          exact ⟨by rw [HS.out]; rfl, rfl⟩
        · have HS := Lib.hid (show realC id = false from decide_eq_false (by omega))
          generalize realC id = tt at *
          go_enter Try.func47, Try.ntmps47
          go_wp2
          go_ret
          exact ⟨by rw [HS.out]; rfl, rfl⟩
      · have HS := Lib.hid (show realC id = false from decide_eq_false (by omega))
        generalize realC id = tt at *
        go_enter Try.func47, Try.ntmps47
        go_wp2
        go_ret
        exact ⟨by rw [HS.out]; rfl, rfl⟩
  · have HS := Lib.hid (show realC id = false from decide_eq_false (by omega))
    have h3 : ¬ 8192 ≤ id := by omega
    generalize realC id = tt at *
    go_enter Try.func47, Try.ntmps47
    go_wp2
    go_ret
    exact ⟨by rw [HS.out]; rfl, rfl⟩
end Go.Proofs.Ytkbaghblchlcnaa
namespace Go.Proofs.Ytkbaghblchlcnaa
open Go.RowKit Go.Shelf
attribute [local go_sem] Oper.semAt_some cell_row frozen_row isRow_setCell_eq rowAt_setCell_same rowAt_setCell_other isRow_alloc_eq rowAt_alloc rowAt_new isRow_setRow_eq rowAt_setRow_same rowAt_setRow_other isRow_drew rowAt_drew size_setRow_ Lb_size Lb_at blk_ptr aggOf_agg below_alloc_r below_setCell_r below_setRow_r below_drew_r le_add_r
set_option maxRecDepth 100000 in
set_option maxHeartbeats 2000000 in
theorem Take_no1 (g : Nat) (m p0 p1 : Int) (o0 o1 sp : Bool) (a b : Int) (e0 e1 : Value) (id pr gr : Int) (is : Bool) (gp : Int) (w : World) (hr : isRow w g) (hr' : rowAt w g = #[.int .i64 m, .int .i64 p0, .int .i64 p1, .bool o0, .bool o1, .bool sp, .int .u32 a, .int .u32 b, e0, e1]) (hm : mayP m p0 p1 o0 o1 a b pr gr is = false) :
    Calls Try.prog 39 #[.pointer (some ⟨g, 0, none⟩), .agg #[.int .i64 id, .int .i64 pr, .int .i64 gr, .bool is], .int .i64 gp] w fun e w' => e = .returned (.tuple #[.int .i64 1023, .bool false]) ∧ Below w.heap.size w w' := by
  have HMAY := Lib.hid (fun W : World => May_c m p0 p1 o0 o1 sp a b id pr gr is W)
  rw [hm] at HMAY
  clear hm
  have hB0 : Below w.heap.size w (w.alloc (.cells #[.int .i64 id, .int .i64 pr, .int .i64 gr, .bool is] 47)) := (Below.refl _ w).alloc (Nat.le_refl _) _
  have hz := hB0.size
  have hne : ¬ g = w.heap.size := by have := hr.lt; omega
  obtain ⟨R0, R0'⟩ : Row (w.alloc (.cells #[.int .i64 id, .int .i64 pr, .int .i64 gr, .bool is] 47)) w.heap.size #[.int .i64 id, .int .i64 pr, .int .i64 gr, .bool is] := Row.new _ _ _
  obtain ⟨R1, R1'⟩ : Row (w.alloc (.cells #[.int .i64 id, .int .i64 pr, .int .i64 gr, .bool is] 47)) g #[.int .i64 m, .int .i64 p0, .int .i64 p1, .bool o0, .bool o1, .bool sp, .int .u32 a, .int .u32 b, e0, e1] := ⟨isRow_alloc hr, (rowAt_alloc hr).trans hr'⟩
  go_enter Try.func39, Try.ntmps39
  go_wp2_with fail
  generalize w.alloc (.cells #[.int .i64 id, .int .i64 pr, .int .i64 gr, .bool is] 47) = W at *
  (first | go_region_with (go_at_call 20; refine (HMAY.out _).mono ?_; rintro e w1 ⟨rfl, hb⟩; obtain ⟨Q0, Q0'⟩ := Row.step (show isRow W.drew _ from R0) (show rowAt W.drew _ = _ from R0') hb) | fail)
  all_goals
    go_wp2
    go_ret2
    exact ⟨rfl, (below_drew0 hB0).trans (hb.mono hz)⟩
set_option maxRecDepth 100000 in
set_option maxHeartbeats 2000000 in
theorem Take_no2 (g : Nat) (m p0 p1 : Int) (o0 o1 sp : Bool) (a b : Int) (e0 e1 : Value) (id pr gr : Int) (is : Bool) (gp : Int) (w : World) (hr : isRow w g) (hr' : rowAt w g = #[.int .i64 m, .int .i64 p0, .int .i64 p1, .bool o0, .bool o1, .bool sp, .int .u32 a, .int .u32 b, e0, e1]) (hm : mayP m p0 p1 o0 o1 a b pr gr is = true) (hn : (gr != gp) = true) :
    Calls Try.prog 39 #[.pointer (some ⟨g, 0, none⟩), .agg #[.int .i64 id, .int .i64 pr, .int .i64 gr, .bool is], .int .i64 gp] w fun e w' => e = .returned (.tuple #[.int .i64 1023, .bool false]) ∧ Below w.heap.size w w' := by
  have HMAY := Lib.hid (fun W : World => May_c m p0 p1 o0 o1 sp a b id pr gr is W)
  rw [hm] at HMAY
  clear hm
  have hB0 : Below w.heap.size w (w.alloc (.cells #[.int .i64 id, .int .i64 pr, .int .i64 gr, .bool is] 47)) := (Below.refl _ w).alloc (Nat.le_refl _) _
  have hz := hB0.size
  have hne : ¬ g = w.heap.size := by have := hr.lt; omega
  obtain ⟨R0, R0'⟩ : Row (w.alloc (.cells #[.int .i64 id, .int .i64 pr, .int .i64 gr, .bool is] 47)) w.heap.size #[.int .i64 id, .int .i64 pr, .int .i64 gr, .bool is] := Row.new _ _ _
  obtain ⟨R1, R1'⟩ : Row (w.alloc (.cells #[.int .i64 id, .int .i64 pr, .int .i64 gr, .bool is] 47)) g #[.int .i64 m, .int .i64 p0, .int .i64 p1, .bool o0, .bool o1, .bool sp, .int .u32 a, .int .u32 b, e0, e1] := ⟨isRow_alloc hr, (rowAt_alloc hr).trans hr'⟩
  go_enter Try.func39, Try.ntmps39
  go_wp2_with fail
  generalize w.alloc (.cells #[.int .i64 id, .int .i64 pr, .int .i64 gr, .bool is] 47) = W at *
  (first | go_region_with (go_at_call 20; refine (HMAY.out _).mono ?_; rintro e w1 ⟨rfl, hb⟩; obtain ⟨Q0, Q0'⟩ := Row.step (show isRow W.drew _ from R0) (show rowAt W.drew _ = _ from R0') hb) | fail)
  all_goals
    go_wp2
    go_ret2
    exact ⟨rfl, (below_drew0 hB0).trans (hb.mono hz)⟩
set_option maxRecDepth 100000 in
set_option maxHeartbeats 4000000 in
theorem Take_yes (g : Nat) (m p0 p1 : Int) (o0 o1 sp : Bool) (a b : Int) (e0 e1 : Value) (id pr gr : Int) (is : Bool) (w : World) (hr : isRow w g) (hr' : rowAt w g = #[.int .i64 m, .int .i64 p0, .int .i64 p1, .bool o0, .bool o1, .bool sp, .int .u32 a, .int .u32 b, e0, e1]) (hm : mayP m p0 p1 o0 o1 a b pr gr is = true) (mk : Int) (hmk : maskP (gr % 2) (ptP p0 p1 gr) = mk) (x y : Int) (hx : setA .or a gr (bits .and .i64 pr mk) = x) (hy : setB .or b gr (bits .and .i64 pr mk) = y) :
    Calls Try.prog 39 #[.pointer (some ⟨g, 0, none⟩), .agg #[.int .i64 id, .int .i64 pr, .int .i64 gr, .bool is], .int .i64 gr] w fun e w' => e = .returned (.tuple #[.int .i64 id, .bool true]) ∧ Row w' g #[.int .i64 m, .int .i64 p0, .int .i64 p1, .bool o0, .bool o1, .bool sp, .int .u32 x, .int .u32 y, e0, e1] ∧ Aside g w w' := by
  have HMAY := Lib.hid (fun W : World => May_c m p0 p1 o0 o1 sp a b id pr gr is W)
  rw [hm] at HMAY
  have HMK := Lib.hid (fun W : World => ifmask_c m p0 p1 o0 o1 sp a b gr W)
  rw [hmk] at HMK
  have HPU := Lib.hid (fun W : World => Push_c a b gr (bits .and .i64 pr mk) W)
  rw [hx, hy] at HPU
  clear hm hmk hx hy
  have hB0 : Below w.heap.size w (w.alloc (.cells #[.int .i64 id, .int .i64 pr, .int .i64 gr, .bool is] 47)) := (Below.refl _ w).alloc (Nat.le_refl _) _
  have hz := hB0.size
  have hne : ¬ g = w.heap.size := by have := hr.lt; omega
  have hne' : ¬ w.heap.size = g := by have := hr.lt; omega
  obtain ⟨R0, R0'⟩ : Row (w.alloc (.cells #[.int .i64 id, .int .i64 pr, .int .i64 gr, .bool is] 47)) w.heap.size #[.int .i64 id, .int .i64 pr, .int .i64 gr, .bool is] := Row.new _ _ _
  obtain ⟨R1, R1'⟩ : Row (w.alloc (.cells #[.int .i64 id, .int .i64 pr, .int .i64 gr, .bool is] 47)) g #[.int .i64 m, .int .i64 p0, .int .i64 p1, .bool o0, .bool o1, .bool sp, .int .u32 a, .int .u32 b, e0, e1] := ⟨isRow_alloc hr, (rowAt_alloc hr).trans hr'⟩
  clear hr hr'
  go_enter Try.func39, Try.ntmps39
  go_wp2_with fail
  generalize w.alloc (.cells #[.int .i64 id, .int .i64 pr, .int .i64 gr, .bool is] 47) = W at *
  (first | go_region_held3 (fun w' => isRow w' g ∧ rowAt w' g = #[.int .i64 m, .int .i64 p0, .int .i64 p1, .bool o0, .bool o1, .bool sp, .int .u32 a, .int .u32 b, e0, e1] ∧ isRow w' w.heap.size ∧ rowAt w' w.heap.size = #[.int .i64 id, .int .i64 pr, .int .i64 gr, .bool is] ∧ Below w.heap.size w w') (first | exact ⟨R1, R1', R0, R0', below_drew0 hB0⟩ | (go_split_ands; exact ⟨rk1 (by assumption) hb, rk2 (by assumption) (by assumption) hb, rk1 (by assumption) hb, rk2 (by assumption) (by assumption) hb, bk (by assumption) (Below.size (by assumption)) hb⟩)) ((go_at_call 20; (with_reducible refine (HMAY.out _).mono ?_); rintro e w1 ⟨rfl, hb⟩)) | fail)
  go_split_ands
  obtain ⟨R2, R2'⟩ : Row w1 g #[.int .i64 m, .int .i64 p0, .int .i64 p1, .bool o0, .bool o1, .bool sp, .int .u32 a, .int .u32 b, e0, e1] := ⟨by assumption, by assumption⟩
  obtain ⟨R3, R3'⟩ : Row w1 w.heap.size #[.int .i64 id, .int .i64 pr, .int .i64 gr, .bool is] := ⟨by assumption, by assumption⟩
  have hB1 : Below w.heap.size w w1 := by assumption
  go_wp2_with fail
  (first | go_region_with (first | (go_at_call 44; refine (HMK.out _).mono ?_; rintro e w2 ⟨rfl, hb2⟩; obtain ⟨R4, R4'⟩ := Row.step (show isRow w1.drew _ from R2) (show rowAt w1.drew _ = _ from R2') hb2; obtain ⟨R5, R5'⟩ := Row.step (show isRow w1.drew _ from R3) (show rowAt w1.drew _ = _ from R3') hb2; have hB2 := bk (below_drew0 hB1) hB1.size hb2) | (go_at_call 68; refine (HPU.out _).mono ?_; rintro e w3 ⟨rfl, hb3⟩; obtain ⟨R6, R6'⟩ := Row.step R4 R4' hb3; obtain ⟨R7, R7'⟩ := Row.step R5 R5' hb3; have hB3 := bk hB2 hB2.size hb3)) | fail)
  all_goals
    go_wp2
    go_ret2
    exact ⟨rfl, ⟨by go_simp, by go_simp⟩, ((Aside.of_below hB3).setCell _).setCell _⟩
end Go.Proofs.Ytkbaghblchlcnaa
