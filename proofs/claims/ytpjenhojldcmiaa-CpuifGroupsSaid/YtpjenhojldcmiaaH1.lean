/- Contracts by hand of layer 8: Running, Drop. -/
import Derived.Test.YtpjenhojldcmiaaH
namespace Go.Proofs.Ytpjenhojldcmiaa
open Go.RowKit Go.Shelf
attribute [local go_sem] Oper.semAt_some

/-- what runs highest, and its group -/
def top (a b : Int) : Int × Int := (allL a b).headD (255, 0)

set_option maxRecDepth 100000 in
set_option maxHeartbeats 1000000 in
theorem Running_c (a b : Int) (w : World) : Calls Try.prog 33 #[(.agg #[.int .u32 a, .int .u32 b])] w fun e w' => e = .returned (.tuple #[.int .i64 (top a b).1, .int .i64 (top a b).2]) ∧ Below w.heap.size w w' := by
  refine calls_of_wide ?_
  refine callsIn_of_wp_marks Try.func33 rfl trivial ?_ rfl
  simp only [Try.ntmps33, List.size_toArray, List.length_cons, List.length_nil, Nat.reduceAdd, Nat.reduceSub, Array.replicate_succ, Array.replicate_zero, List.push_toArray, List.append_toArray, List.nil_append, List.cons_append]
  gi_wp2_with (gi_at_call 49; refine (in_of_calls (All_c _ _ _)).mono ?_; rintro e w' ⟨rfl, rfl⟩)
  have hB0 : Below w.heap.size w ((((w.alloc (.cells #[.int .u32 a, .int .u32 b] 27)).alloc (.cells #[.int .i64 0] 3)).alloc (.cells #[.int .i64 0] 3)).alloc (.cells #[.int .u32 a, .int .u32 b] 27)) :=
    ((((Below.refl _ w).alloc (Nat.le_refl _) _).alloc (by simp) _).alloc (by simp; omega) _).alloc (by simp; omega) _
  have b2 : Boxed ((((w.alloc (.cells #[.int .u32 a, .int .u32 b] 27)).alloc (.cells #[.int .i64 0] 3)).alloc (.cells #[.int .i64 0] 3)).alloc (.cells #[.int .u32 a, .int .u32 b] 27)) (w.heap.size + 1) 3 (.int .i64 0) := by
    have := (((Boxed.new (w.alloc (.cells #[.int .u32 a, .int .u32 b] 27)) 3 (.int .i64 0)).alloc (.cells #[.int .i64 0] 3)).alloc (.cells #[.int .u32 a, .int .u32 b] 27)); rwa [World.size_alloc] at this
  have b3 : Boxed ((((w.alloc (.cells #[.int .u32 a, .int .u32 b] 27)).alloc (.cells #[.int .i64 0] 3)).alloc (.cells #[.int .i64 0] 3)).alloc (.cells #[.int .u32 a, .int .u32 b] 27)) (w.heap.size + 2) 3 (.int .i64 0) := by
    have := ((Boxed.new ((w.alloc (.cells #[.int .u32 a, .int .u32 b] 27)).alloc (.cells #[.int .i64 0] 3)) 3 (.int .i64 0)).alloc (.cells #[.int .u32 a, .int .u32 b] 27)); simpa using this
  have b4 : BoxN ((((w.alloc (.cells #[.int .u32 a, .int .u32 b] 27)).alloc (.cells #[.int .i64 0] 3)).alloc (.cells #[.int .i64 0] 3)).alloc (.cells #[.int .u32 a, .int .u32 b] 27)) (w.heap.size + 3) 27 #[.int .u32 a, .int .u32 b] := by
    have := BoxN.new (((w.alloc (.cells #[.int .u32 a, .int .u32 b] 27)).alloc (.cells #[.int .i64 0] 3)).alloc (.cells #[.int .i64 0] 3)) 27 #[.int .u32 a, .int .u32 b]; simpa using this
  have hsz : ((((w.alloc (.cells #[.int .u32 a, .int .u32 b] 27)).alloc (.cells #[.int .i64 0] 3)).alloc (.cells #[.int .i64 0] 3)).alloc (.cells #[.int .u32 a, .int .u32 b] 27)).heap.size = w.heap.size + 4 := by simp
  refine wp_range (Pv := NoCells) (fun _ h => h) rfl (enters_of Try.func55 (by kernel_rfl) rfl) (all_iter NoCells (fun k => k = w.heap.size + 3) (fun _ => False) a b (w.heap.size + 3) _ rfl b4) (Below.refl _ _)
    (fun h k => h.trans k) (KeepsS.put (by simp)) (fun _ => rfl)
    (fun pre W => (pre = [] ∧ Boxed W (w.heap.size + 1) 3 (.int .i64 0) ∧ Boxed W (w.heap.size + 2) 3 (.int .i64 0)) ∧ Below w.heap.size w W)
    (fun c pre W => (c = .ret ∧ ∃ x : Int × Int, pre = [x] ∧ Boxed W (w.heap.size + 1) 3 (.int .i64 x.1) ∧ Boxed W (w.heap.size + 2) 3 (.int .i64 x.2)) ∧ Below w.heap.size w W)
    (((OwnP.const _ _ _).and ((OwnP.box NoCells (by rw [hsz]; omega) 3 _).and (OwnP.box NoCells (by rw [hsz]; omega) 3 _))).and (OwnP.below NoCells (Nat.le_refl _) (by rw [hsz]; omega)))
    (fun c => OwnP.and (fun s W W' row hs hg hr => by
      obtain ⟨hc, x, hx, h1, h2⟩ := hs
      exact ⟨hc, x, hx, h1.kept hg (fun e => by have := (hr _ e.symm).1; omega), h2.kept hg (fun e => by have := (hr _ e.symm).1; omega)⟩) (OwnP.below NoCells (Nat.le_refl _) (by rw [hsz]; omega)))
    ⟨⟨rfl, b2, b3⟩, hB0⟩ ?round ?done ?stop
  case round =>
    rintro l pre x post W hxs hl hlt ⟨⟨rfl, h1, h2⟩, hB⟩
    gi_wp2
    refine ⟨KeepsFrom.refl _ _, KeepsS.refl _ _ _, ⟨⟨by trivial, h1, h2⟩, hB⟩, ?_⟩
    clear h1 h2 hB b2 b3 b4 hB0
    rintro W2 hg ⟨⟨-, h1, h2⟩, hB⟩
    have c1 := h1.cell
    have c2 := h2.cell
    have f1 := h1.frozen
    have f2 := h2.frozen
    gi_wp2
    exact ⟨((KeepsOthers.setCell _ _ _).trans (KeepsOthers.setCell _ _ _)).from _, ⟨rfl, x, rfl, (h1.set _).other (by omega) _, (h2.other (by omega) _).set _⟩,
      (hB.setCell (p := ⟨w.heap.size + 1, 0, none⟩) (by simp) _).setCell (p := ⟨w.heap.size + 1 + 1, 0, none⟩) (by simp; omega) _⟩
  case done =>
    rintro D W hD ⟨⟨hnil, h1, h2⟩, hB⟩ hK
    have c1 := h1.cell
    have c2 := h2.cell
    have f1 := h1.frozen
    have f2 := h2.frozen
    gi_wp2
    have hK2 := ((KeepsOthers.setCell W ⟨w.heap.size + 1, 0, none⟩ (.int .i64 255)).trans (KeepsOthers.setCell _ ⟨w.heap.size + 1 + 1, 0, none⟩ (.int .i64 0))).same D _ hK rfl
    have d1 := (boxed_putD ((h1.set (.int .i64 255)).other (B' := w.heap.size + 1 + 1) (by omega) (.int .i64 0)) (D := D) (by omega) (.deferred none)).cell
    have d2 := (boxed_putD ((h2.other (B' := w.heap.size + 1) (by omega) (.int .i64 255)).set (.int .i64 0)) (D := D) (by omega) (.deferred none)).cell
    refine leave_mark hK2 (v := .tuple #[.int .i64 255, .int .i64 0]) (by simp [results, Try.results33, go_sem, d1, d2]) ⟨?_, ?_⟩
    · rw [top, hnil]; rfl
    · exact below_putD ((hB.setCell (p := ⟨w.heap.size + 1, 0, none⟩) (by simp) _).setCell (p := ⟨w.heap.size + 1 + 1, 0, none⟩) (by simp; omega) _) (by omega) _
  case stop =>
    rintro D c pre x post W hxs hD ⟨⟨rfl, y, hy, h1, h2⟩, hB⟩ hK
    gi_wp2
    obtain ⟨rfl, rfl⟩ : pre = [] ∧ x = y := by
      cases pre with
      | nil => simpa using hy
      | cons z zs => simp at hy
    have d1 := (boxed_putD h1 (D := D) (by omega) (.deferred none)).cell
    have d2 := (boxed_putD h2 (D := D) (by omega) (.deferred none)).cell
    refine leave_mark hK (v := .tuple #[.int .i64 x.1, .int .i64 x.2]) (by simp [results, Try.results33, go_sem, d1, d2]) ⟨?_, ?_⟩
    · rw [top, hxs]; rfl
    · exact below_putD hB (by omega) _

theorem mem_allUpto (a b : Int) (n : Nat) (x : Int × Int) (h : x ∈ allUpto a b n) : ∃ i, i < n ∧ rb a b i = true ∧ x = ((8 * (i / 2 : Nat) : Int), ((i % 2 : Nat) : Int)) := by
  induction n with
  | zero => simp [allUpto] at h
  | succ n ih =>
    rw [allUpto, List.mem_append] at h
    rcases h with h | h
    · obtain ⟨i, h1, h2, h3⟩ := ih h
      exact ⟨i, by omega, h2, h3⟩
    · unfold cell at h
      split at h
      · simp at h; exact ⟨n, by omega, by assumption, h⟩
      · simp at h
theorem mem_allL (a b : Int) (x : Int × Int) (h : x ∈ allL a b) : ∃ (k : Nat) (g : Int), k < 32 ∧ (g = 0 ∨ g = 1) ∧ x = ((8 * k : Int), g) ∧ (g = 0 → tb a k = true) ∧ (g = 1 → tb b k = true) := by
  obtain ⟨i, h1, h2, h3⟩ := mem_allUpto a b 64 x h
  refine ⟨i / 2, ((i % 2 : Nat) : Int), by omega, by omega, h3, fun h => ?_, fun h => ?_⟩
  · rw [rb, if_pos (by omega)] at h2; exact h2
  · rw [rb, if_neg (by omega)] at h2; exact h2

/-- the ladder behind letting the highest go -/
def dropA (a b : Int) : Int := match allL a b with | [] => a | x :: _ => if x.2 = 0 then bits .andNot .u32 a (2 ^ (x.1 / 8).toNat) else a
def dropB (a b : Int) : Int := match allL a b with | [] => b | x :: _ => if x.2 = 0 then b else bits .andNot .u32 b (2 ^ (x.1 / 8).toNat)
def some? (a b : Int) : Bool := !(allL a b).isEmpty

set_option maxRecDepth 100000 in
set_option maxHeartbeats 1000000 in
theorem Drop_c (a b : Int) (w : World) : Calls Try.prog 36 #[.agg #[.int .u32 a, .int .u32 b]] w fun e w' => e = .returned (.tuple #[.agg #[.int .u32 (dropA a b), .int .u32 (dropB a b)], .bool (some? a b)]) ∧ Below w.heap.size w w' := by
  refine calls_of_wide ?_
  refine callsIn_of_wp_marks Try.func36 rfl trivial ?_ rfl
  simp only [Try.ntmps36, List.size_toArray, List.length_cons, List.length_nil, Nat.reduceAdd, Nat.reduceSub, Array.replicate_succ, Array.replicate_zero, List.push_toArray, List.append_toArray, List.nil_append, List.cons_append]
  gi_wp2_with (gi_at_call 49; refine (in_of_calls (All_c _ _ _)).mono ?_; rintro e w' ⟨rfl, rfl⟩)
  have hB0 : Below w.heap.size w ((((w.alloc (.cells #[.int .u32 a, .int .u32 b] 27)).alloc (.cells #[.int .u32 0, .int .u32 0] 27)).alloc (.cells #[.bool false] 4)).alloc (.cells #[.int .u32 a, .int .u32 b] 27)) :=
    ((((Below.refl _ w).alloc (Nat.le_refl _) _).alloc (by simp) _).alloc (by simp; omega) _).alloc (by simp; omega) _
  have b1 : BoxN ((((w.alloc (.cells #[.int .u32 a, .int .u32 b] 27)).alloc (.cells #[.int .u32 0, .int .u32 0] 27)).alloc (.cells #[.bool false] 4)).alloc (.cells #[.int .u32 a, .int .u32 b] 27)) w.heap.size 27 #[.int .u32 a, .int .u32 b] :=
    (((BoxN.new w 27 #[.int .u32 a, .int .u32 b]).alloc _).alloc _).alloc _
  have b2 : BoxN ((((w.alloc (.cells #[.int .u32 a, .int .u32 b] 27)).alloc (.cells #[.int .u32 0, .int .u32 0] 27)).alloc (.cells #[.bool false] 4)).alloc (.cells #[.int .u32 a, .int .u32 b] 27)) (w.heap.size + 1) 27 #[.int .u32 0, .int .u32 0] := by
    have := (((BoxN.new (w.alloc (.cells #[.int .u32 a, .int .u32 b] 27)) 27 #[.int .u32 0, .int .u32 0]).alloc (.cells #[.bool false] 4)).alloc (.cells #[.int .u32 a, .int .u32 b] 27)); rwa [World.size_alloc] at this
  have b3 : Boxed ((((w.alloc (.cells #[.int .u32 a, .int .u32 b] 27)).alloc (.cells #[.int .u32 0, .int .u32 0] 27)).alloc (.cells #[.bool false] 4)).alloc (.cells #[.int .u32 a, .int .u32 b] 27)) (w.heap.size + 2) 4 (.bool false) := by
    have := ((Boxed.new ((w.alloc (.cells #[.int .u32 a, .int .u32 b] 27)).alloc (.cells #[.int .u32 0, .int .u32 0] 27)) 4 (.bool false)).alloc (.cells #[.int .u32 a, .int .u32 b] 27)); simpa using this
  have b4 : BoxN ((((w.alloc (.cells #[.int .u32 a, .int .u32 b] 27)).alloc (.cells #[.int .u32 0, .int .u32 0] 27)).alloc (.cells #[.bool false] 4)).alloc (.cells #[.int .u32 a, .int .u32 b] 27)) (w.heap.size + 3) 27 #[.int .u32 a, .int .u32 b] := by
    have := BoxN.new (((w.alloc (.cells #[.int .u32 a, .int .u32 b] 27)).alloc (.cells #[.int .u32 0, .int .u32 0] 27)).alloc (.cells #[.bool false] 4)) 27 #[.int .u32 a, .int .u32 b]; simpa using this
  have hsz : ((((w.alloc (.cells #[.int .u32 a, .int .u32 b] 27)).alloc (.cells #[.int .u32 0, .int .u32 0] 27)).alloc (.cells #[.bool false] 4)).alloc (.cells #[.int .u32 a, .int .u32 b] 27)).heap.size = w.heap.size + 4 := by simp
  refine wp_range (Pv := NoCells) (fun _ h => h) rfl (enters_of Try.func55 (by kernel_rfl) rfl) (all_iter NoCells (fun k => k = w.heap.size + 3) (fun _ => False) a b (w.heap.size + 3) _ rfl b4) (Below.refl _ _)
    (fun h k => h.trans k) (KeepsS.put (by simp)) (fun _ => rfl)
    (fun pre W => (pre = [] ∧ BoxN W w.heap.size 27 #[.int .u32 a, .int .u32 b] ∧ BoxN W (w.heap.size + 1) 27 #[.int .u32 0, .int .u32 0] ∧ Boxed W (w.heap.size + 2) 4 (.bool false)) ∧ Below w.heap.size w W)
    (fun c pre W => (c = .ret ∧ ∃ x : Int × Int, pre = [x] ∧ BoxN W (w.heap.size + 1) 27 #[.int .u32 (dropA a b), .int .u32 (dropB a b)] ∧ Boxed W (w.heap.size + 2) 4 (.bool true)) ∧ Below w.heap.size w W)
    (((OwnP.const _ _ _).and ((OwnP.boxN NoCells (by rw [hsz]; omega) 27 _).and ((OwnP.boxN NoCells (by rw [hsz]; omega) 27 _).and (OwnP.box NoCells (by rw [hsz]; omega) 4 _)))).and (OwnP.below NoCells (Nat.le_refl _) (by rw [hsz]; omega)))
    (fun c => OwnP.and (fun s W W' row hs hg hr => by
      obtain ⟨hc, x, hx, h1, h2⟩ := hs
      exact ⟨hc, x, hx, h1.kept hg (fun e => by have := (hr _ e.symm).1; omega), h2.kept hg (fun e => by have := (hr _ e.symm).1; omega)⟩) (OwnP.below NoCells (Nat.le_refl _) (by rw [hsz]; omega)))
    ⟨⟨rfl, b1, b2, b3⟩, hB0⟩ ?round ?done ?stop
  case round =>
    rintro l pre x post W hxs hl hlt ⟨⟨rfl, h0, h1, h2⟩, hB⟩
    obtain ⟨k, g, hk, hg01, rfl, hg0, hg1⟩ := mem_allL a b x (by rw [hxs]; simp)
    have hdA : dropA a b = if g = 0 then bits .andNot .u32 a (2 ^ k) else a := by
      unfold dropA; rw [hxs]; simp only [List.nil_append]; rw [show ((8 * (k : Int)) / 8).toNat = k by omega]
    have hdB : dropB a b = if g = 0 then b else bits .andNot .u32 b (2 ^ k) := by
      unfold dropB; rw [hxs]; simp only [List.nil_append]; rw [show ((8 * (k : Int)) / 8).toNat = k by omega]
    gi_wp2
    refine ⟨KeepsFrom.refl _ _, KeepsS.refl _ _ _, ⟨⟨by trivial, h0, h1, h2⟩, hB⟩, ?_⟩
    clear h0 h1 h2 hB b1 b2 b3 b4 hB0
    rintro W2 hg ⟨⟨-, h0, h1, h2⟩, hB⟩
    have c0 := h0.cell (i := 0) rfl
    have c0' := h0.cell (i := 1) rfl
    have f0 := h0.frozen 0
    have f0' := h0.frozen 1
    have c1 := h1.cell (i := 0) rfl
    have c1' := h1.cell (i := 1) rfl
    have f1 := h1.frozen 0
    have f1' := h1.frozen 1
    have c2 := h2.cell
    have f2 := h2.frozen
    clear hl hlt hg
    have HA := Lib.hid hdA
    have HBB := Lib.hid hdB
    clear hdA hdB hxs hg0 hg1
    have hp := pow32 k hk
    clear hsz
    rcases hg01 with rfl | rfl
    · rw [if_pos rfl] at HA HBB
      gi_wp2
      refine ⟨(((KeepsOthers.setCell _ _ _).trans (KeepsOthers.setCell _ _ _)).trans ((KeepsOthers.setCell _ _ _).trans (KeepsOthers.setCell _ _ _))).from _, ⟨rfl, (8 * (k : Int), 0), rfl, ?_, ?_⟩, ?_⟩
      · have z := boxN_other (((boxN_other h1 ⟨w.heap.size, 0, none⟩ (by simp) (.int .u32 (bits .andNot .u32 a (2 ^ k)))).set 0 (.int .u32 (bits .andNot .u32 a (2 ^ k)))).set 1 (.int .u32 b)) ⟨w.heap.size + 1 + 1, 0, none⟩ (by simp) (.bool true)
        rw [HA.out, HBB.out]
        exact z
      · exact ((((boxed_other h2 _ (by simp) _)).other (B' := w.heap.size + 1) (by omega) _) |> fun z => (boxed_other z ⟨w.heap.size + 1, 1, none⟩ (by simp) _)).set _
      · exact (((hB.setCell (p := ⟨w.heap.size, 0, none⟩) (by simp) _).setCell (p := ⟨w.heap.size + 1, 0, none⟩) (by simp) _).setCell (p := ⟨w.heap.size + 1, 1, none⟩) (by simp) _).setCell (p := ⟨w.heap.size + 1 + 1, 0, none⟩) (by simp; omega) _
    · rw [if_neg (by decide)] at HA HBB
      gi_wp2
      refine ⟨(((KeepsOthers.setCell _ _ _).trans (KeepsOthers.setCell _ _ _)).trans ((KeepsOthers.setCell _ _ _).trans (KeepsOthers.setCell _ _ _))).from _, ⟨rfl, (8 * (k : Int), 1), rfl, ?_, ?_⟩, ?_⟩
      · have z := boxN_other (((boxN_other h1 ⟨w.heap.size, 1, none⟩ (by simp) (.int .u32 (bits .andNot .u32 b (2 ^ k)))).set 0 (.int .u32 a)).set 1 (.int .u32 (bits .andNot .u32 b (2 ^ k)))) ⟨w.heap.size + 1 + 1, 0, none⟩ (by simp) (.bool true)
        rw [HA.out, HBB.out]
        exact z
      · exact ((((boxed_other h2 _ (by simp) _)).other (B' := w.heap.size + 1) (by omega) _) |> fun z => (boxed_other z ⟨w.heap.size + 1, 1, none⟩ (by simp) _)).set _
      · exact (((hB.setCell (p := ⟨w.heap.size, 1, none⟩) (by simp) _).setCell (p := ⟨w.heap.size + 1, 0, none⟩) (by simp) _).setCell (p := ⟨w.heap.size + 1, 1, none⟩) (by simp) _).setCell (p := ⟨w.heap.size + 1 + 1, 0, none⟩) (by simp; omega) _
  case done =>
    rintro D W hD ⟨⟨hnil, h0, h1, h2⟩, hB⟩ hK
    have c0 := h0.cell (i := 0) rfl
    have c0' := h0.cell (i := 1) rfl
    have c1 := h1.cell (i := 0) rfl
    have c1' := h1.cell (i := 1) rfl
    have f1 := h1.frozen 0
    have f1' := h1.frozen 1
    have c2 := h2.cell
    have f2 := h2.frozen
    clear hsz
    simp at hD
    gi_wp2
    have hK2 := (((KeepsOthers.setCell W ⟨w.heap.size + 1, 0, none⟩ (.int .u32 a)).trans (KeepsOthers.setCell _ ⟨w.heap.size + 1, 1, none⟩ (.int .u32 b))).trans (KeepsOthers.setCell _ ⟨w.heap.size + 1 + 1, 0, none⟩ (.bool false))).same D _ hK rfl
    have z1 := boxN_putD (boxN_other ((h1.set 0 (.int .u32 a)).set 1 (.int .u32 b)) ⟨w.heap.size + 1 + 1, 0, none⟩ (by simp) (.bool false)) (D := D) (by omega) (.deferred none)
    have d1 := z1.cell (i := 0) rfl
    have d1' := z1.cell (i := 1) rfl
    have d2 := (boxed_putD ((boxed_other (boxed_other h2 ⟨w.heap.size + 1, 0, none⟩ (by simp) (.int .u32 a)) ⟨w.heap.size + 1, 1, none⟩ (by simp) (.int .u32 b)).set (.bool false)) (D := D) (by omega) (.deferred none)).cell
    refine leave_mark hK2 (v := .tuple #[.agg #[.int .u32 a, .int .u32 b], .bool false]) (by simp [results, Try.results36, go_sem, d1, d1', d2]) ⟨?_, ?_⟩
    · unfold dropA dropB some?; rw [hnil]; rfl
    · exact below_putD (((hB.setCell (p := ⟨w.heap.size + 1, 0, none⟩) (by simp) _).setCell (p := ⟨w.heap.size + 1, 1, none⟩) (by simp) _).setCell (p := ⟨w.heap.size + 1 + 1, 0, none⟩) (by simp; omega) _) (by omega) _
  case stop =>
    rintro D c pre x post W hxs hD ⟨⟨rfl, y, hy, h1, h2⟩, hB⟩ hK
    clear hsz
    simp at hD
    gi_wp2
    have z1 := boxN_putD h1 (D := D) (by omega) (.deferred none)
    have d1 := z1.cell (i := 0) rfl
    have d1' := z1.cell (i := 1) rfl
    have d2 := (boxed_putD h2 (D := D) (by omega) (.deferred none)).cell
    refine leave_mark hK (v := .tuple #[.agg #[.int .u32 (dropA a b), .int .u32 (dropB a b)], .bool true]) (by simp [results, Try.results36, go_sem, d1, d1', d2]) ⟨?_, ?_⟩
    · unfold some?; rw [hxs]; simp
    · exact below_putD hB (by omega) _
end Go.Proofs.Ytpjenhojldcmiaa
