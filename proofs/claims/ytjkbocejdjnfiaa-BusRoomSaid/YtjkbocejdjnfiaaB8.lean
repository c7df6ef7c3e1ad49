/- The document's examples. -/
import Derived.Test.YtjkbocejdjnfiaaB7
import Derived.Test.YtjkbocejdjnfiaaIAllx5
namespace Go.Proofs.Ytjkbocejdjnfiaa.Bs
open Go.RowKit Go.Shelf Go.Proofs.Ytjkbocejdjnfiaa.IAll Go.Proofs.YtjkbocejdjnfiaaW.PrintWords Go.Proofs.YtjkbocejdjnfiaaW.PrintLast Go.Proofs.YtjkbocejdjnfiaaW.PrintMore
attribute [local go_sem] Oper.semAt_some cell_row frozen_row isRow_setCell_eq rowAt_setCell_same rowAt_setCell_other isRow_alloc_eq rowAt_alloc rowAt_new rowAt_new' isRow_setRow_eq rowAt_setRow_same rowAt_setRow_other isRow_drew rowAt_drew size_setRow_ size_drew_ blk_ptr aggOf_agg below_alloc_e below_setCell_e below_setRow_e below_refl_e below_drew_r isRow_drewN rowAt_drewN below_drewN_e le_add_r asideP_alloc_e asideP_setCell_e asideP_setRow_e asideP_drew_e asideP_drewN_e asideP_refl_e cell_setRow_far cell_setCell_far cell_drew_ heap_setCell_far heap_setRow_far heap_drew_ ES_size ES_one ES_fold ES_0 ES_1 allOne_nil allOne_cons Value.oneCell'
attribute [local go_sem ↓] loadS storeS loadSg storeSg
def s0 : Sp := ⟨256, 64, 1, 0⟩
def s1 : Sp := ⟨0, 16, 2, 0⟩
theorem free_k (A : Option Addr) (n c : Nat) (d : List Sp) (g : Nat) (e : Int) (w : World) (hg : Row w g #[.slice A n c]) (hr : Kd.C k33 w A n d) (hD : ∀ s ∈ d, Rgt s) (h32 : n ≤ 64) (he : e ≤ 9223372036854775807) :
    Calls Try.prog 19 #[.pointer (some ⟨g, 0, none⟩), .int .i64 e] w fun en w' => ∃ A' c', en = .returned (.slice A' (flI (fr e d)).length c') ∧ (flI (fr e d)).length ≤ c' ∧ Kd.C (Kd.int .i64) w' A' (flI (fr e d)).length (flI (fr e d)) ∧ Below w.heap.size w w' := by
  refine (free_c A n c d g e w hg hr hD h32 he).mono ?_
  rintro en w' ⟨v, rfl, ho, hb⟩
  rw [← flI_len] at ho
  have hR : (Kd.int .i64).R 3 w' w.heap.size (fun _ => True) v (flI (fr e d)) := Kd.R_of_own ho (fun _ _ => trivial)
  obtain ⟨A', c', rfl, h1, h2⟩ := Kd.R_reads hR
  exact ⟨A', c', rfl, h1, h2, hb⟩
theorem two_kd {W : World} {ob : Nat} (h : isRow W ob) (h' : rowAt W ob = #[.int .i64 256, .int .i64 64, .int .i64 1, .int .i64 0, .int .i64 0, .int .i64 16, .int .i64 2, .int .i64 0]) : Kd.C k33 W (some ⟨ob, 0, none⟩) 2 [s0, s1] :=
  ⟨rfl, by decide, fun _ => ⟨⟨ob, 0, none⟩, rfl, fun j p hq => by
    have hj : j < 2 := (List.getElem?_eq_some_iff.1 hq).1
    rcases (show j = 0 ∨ j = 1 by omega) with rfl | rfl
    · obtain rfl : s0 = p := Option.some.inj hq
      refine ⟨[.int .i64 256, .int .i64 64, .int .i64 1, .int .i64 0], rfl, k33_mk W s0, fun i u hu => ?_⟩
      have hi : i < 4 := (List.getElem?_eq_some_iff.1 hu).1
      show W.cell? ((⟨ob, 0, none⟩ : Addr).add (0 * 4 + i)) = _
      rw [addr_at, cell_row h, h']
      rcases (show i = 0 ∨ i = 1 ∨ i = 2 ∨ i = 3 by omega) with rfl | rfl | rfl | rfl <;> exact hu
    · obtain rfl : s1 = p := Option.some.inj hq
      refine ⟨[.int .i64 0, .int .i64 16, .int .i64 2, .int .i64 0], rfl, k33_mk W s1, fun i u hu => ?_⟩
      have hi : i < 4 := (List.getElem?_eq_some_iff.1 hu).1
      show W.cell? ((⟨ob, 0, none⟩ : Addr).add (1 * 4 + i)) = _
      rw [addr_at, cell_row h, h']
      rcases (show i = 0 ∨ i = 1 ∨ i = 2 ∨ i = 3 by omega) with rfl | rfl | rfl | rfl <;> exact hu⟩⟩
theorem ex_good : ¬ newBad [s0, s1] := by
  rintro (h | ⟨s, hs, h⟩)
  · exact absurd h (by decide)
  · rcases List.mem_cons.1 hs with rfl | hs
    · exact absurd h (by decide +kernel)
    · rw [List.mem_singleton] at hs
      subst hs
      exact absurd h (by decide +kernel)
theorem ex_sorted {d : List Sp} (hp : d.Perm [s0, s1]) (hs : Srt d) : d = [s1, s0] := by
  have hl := hp.length_eq
  match d, hl with
  | [a, b], _ =>
    have ha : a = s0 ∨ a = s1 := by simpa using hp.mem_iff.1 (show a ∈ [a, b] by simp)
    have hb : b = s0 ∨ b = s1 := by simpa using hp.mem_iff.1 (show b ∈ [a, b] by simp)
    have h0 : s0 = a ∨ s0 = b := by simpa using hp.mem_iff.2 (show s0 ∈ [s0, s1] by simp)
    have h1 : s1 = a ∨ s1 = b := by simpa using hp.mem_iff.2 (show s1 ∈ [s0, s1] by simp)
    have h01 : s0 ≠ s1 := by intro e; exact absurd (congrArg S33.f0 e) (by decide)
    have hs' := hs 0 1 (by decide) (show 1 < 2 by decide)
    rcases ha with rfl | rfl
    · rcases hb with rfl | rfl
      · rcases h1 with h1 | h1 <;> exact absurd h1.symm h01
      · exact absurd hs' (by decide)
    · rcases hb with rfl | rfl
      · rfl
      · rcases h0 with h0 | h0 <;> exact absurd h0 h01
theorem ex_noovl : NoOvl [s1, s0] := by
  intro k hk
  obtain rfl : k = 0 := by simp at hk; omega
  decide
theorem ex_rgt : ∀ s ∈ [s1, s0], Rgt s := by
  intro s hs
  rcases List.mem_cons.1 hs with rfl | hs
  · exact ⟨by decide, by decide, by decide⟩
  · rw [List.mem_singleton] at hs
    subst hs
    exact ⟨by decide, by decide, by decide⟩
theorem ex_f1 : fnd [s1, s0] 312 8 = (s0, 56, 0) := by kernel_rfl
theorem ex_f2 : fnd [s1, s0] 16 8 = (z33, 0, 42) := by kernel_rfl
theorem ex_p : plc [s1, s0] 100 64 1000 = (64, 0) := by kernel_rfl
theorem ex_fr : flI (fr 300 [s1, s0]) = [16, 240] := by kernel_rfl
theorem ex_same : crierref01_Same.f 9 [16, 240] [16, 240] = some true := by decide +kernel
theorem two_int {W : World} {ob : Nat} (h : isRow W ob) (h' : rowAt W ob = #[.int .i64 16, .int .i64 240]) : Kd.C (Kd.int .i64) W (some ⟨ob, 0, none⟩) 2 [16, 240] :=
  ⟨rfl, by decide, fun _ => ⟨⟨ob, 0, none⟩, rfl, fun j p hq => by
    have hj : j < 2 := (List.getElem?_eq_some_iff.1 hq).1
    refine ⟨[.int .i64 p], rfl, rfl, fun i u hu => ?_⟩
    have hi : i < 1 := (List.getElem?_eq_some_iff.1 hu).1
    obtain rfl : i = 0 := by omega
    show W.cell? ((⟨ob, 0, none⟩ : Addr).add (j * 1 + 0)) = _
    rw [addr_at, cell_row h, h']
    rcases (show j = 0 ∨ j = 1 by omega) with rfl | rfl
    · obtain rfl := Option.some.inj hq; exact hu
    · obtain rfl := Option.some.inj hq; exact hu⟩⟩
set_option maxRecDepth 100000 in
set_option maxHeartbeats 2000000 in
theorem awake_c (w : World) : Calls Try.prog 9 #[] w fun e w' => e = .returned (.bool true) ∧ Below w.heap.size w w' := by
  go_enter Try.func9, Try.ntmps9
  go_wp2_with fail
  refine calls_named (fun W_ => (isRow W_ w.heap.size ∧ rowAt W_ w.heap.size = #[.int .i64 256, .int .i64 64, .int .i64 1, .int .i64 0, .int .i64 0, .int .i64 16, .int .i64 2, .int .i64 0]) ∧ Below w.heap.size w W_) (by refine ⟨⟨by go_simp, by go_simp⟩, by go_simp⟩) ?_
  rintro W0 ⟨⟨a1, a1'⟩, hB0⟩
  refine (New_c (some ⟨w.heap.size, 0, none⟩) 2 2 [s0, s1] W0 (two_kd a1 a1')).mono ?_
  rintro e W1 ⟨v, r, rfl, hb1, ho⟩
  have hB1 : Below w.heap.size w W1 := bk hB0 hB0.size hb1
  rcases ho with ⟨h, -, -⟩ | ⟨-, d', hp, hs, ⟨h, -, -⟩ | ⟨-, rfl, g, A', c', rfl, hgz, hrow, hc', hC, hob⟩⟩
  · exact absurd h ex_good
  · exact absurd (ex_sorted hp hs ▸ ex_noovl) h
  obtain rfl := ex_sorted hp hs
  clear hp hs hob a1 a1' hB0 hb1
  have lg := hrow.lt
  have l1 := hB1.size
  go_wp2_with fail
  have H1 := Find_c A' 2 c' [s1, s0] g 312 8 W1 hrow hC ex_rgt
  rw [ex_f1] at H1
  refine H1.mono ?_
  rintro e W2 ⟨rfl, hb2⟩
  clear H1
  replace hC := Kd.C_below hC hb2
  replace hrow := hrow.below hb2 lg
  have hB2 : Below w.heap.size w W2 := bk hB1 l1 hb2
  replace l1 := hB2.size
  replace lg := hrow.lt
  clear hB1 hb2
  have n1 : ¬ g = W2.heap.size := by omega
  have n2 : ¬ W2.heap.size = g := by omega
  obtain ⟨r1, r1'⟩ := hrow
  go_wp2_with fail
  have hC3 : Kd.C k33 ((W2.alloc (.cells (ES z33) 33)).setRow W2.heap.size (ES s0)) A' 2 [s1, s0] := Kd.C_below hC (below_setRow ((Below.refl _ W2).alloc (Nat.le_refl _) _) (Nat.le_refl _) _)
  refine calls_named (fun W_ => (isRow W_ g ∧ rowAt W_ g = #[.slice A' 2 c']) ∧ (isRow W_ W2.heap.size ∧ rowAt W_ W2.heap.size = ES s0) ∧ Kd.C k33 W_ A' 2 [s1, s0] ∧ Below w.heap.size w W_) (by refine ⟨⟨by go_simp, by go_simp⟩, ⟨by go_simp, by go_simp⟩, hC3, below_setRow (hB2.alloc l1 _) l1 _⟩) ?_
  rintro W3 ⟨⟨g3, g3'⟩, ⟨x3, x3'⟩, hC3', hB3⟩
  clear hC hC3 r1 r1' hB2
  have H2 := Find_c A' 2 c' [s1, s0] g 16 8 W3 ⟨g3, g3'⟩ hC3' ex_rgt
  rw [ex_f2] at H2
  refine H2.mono ?_
  rintro e W4 ⟨rfl, hb4⟩
  clear H2
  have hC4 := Kd.C_below hC3' hb4
  obtain ⟨g4, g4'⟩ := Row.step g3 g3' hb4
  obtain ⟨x4, x4'⟩ := Row.step x3 x3' hb4
  have hB4 : Below w.heap.size w W4 := bk hB3 hB3.size hb4
  have l4 := hB4.size
  have lg4 := g4.lt
  have lx4 := x4.lt
  clear g3 g3' x3 x3' hC3' hB3 hb4
  have n3 : ¬ g = W4.heap.size := by omega
  have n4 : ¬ W4.heap.size = g := by omega
  have n5 : ¬ W2.heap.size = W4.heap.size := by omega
  have n6 : ¬ W4.heap.size = W2.heap.size := by omega
  go_wp2_with fail
  have hC5 : Kd.C k33 ((W4.alloc (.cells (ES z33) 33)).setRow W4.heap.size (ES z33)) A' 2 [s1, s0] := Kd.C_below hC4 (below_setRow ((Below.refl _ W4).alloc (Nat.le_refl _) _) (Nat.le_refl _) _)
  refine calls_named (fun W_ => (isRow W_ g ∧ rowAt W_ g = #[.slice A' 2 c']) ∧ (isRow W_ W2.heap.size ∧ rowAt W_ W2.heap.size = ES s0) ∧ Kd.C k33 W_ A' 2 [s1, s0] ∧ Below w.heap.size w W_) (by refine ⟨⟨by go_simp, by go_simp⟩, ⟨by go_simp, by go_simp⟩, hC5, below_setRow (hB4.alloc l4 _) l4 _⟩) ?_
  rintro W5 ⟨⟨g5, g5'⟩, ⟨x5, x5'⟩, hC5', hB5⟩
  clear hC4 hC5 g4 g4' x4 x4' hB4
  have H3 := Place_c A' 2 c' [s1, s0] g 100 64 1000 W5 ⟨g5, g5'⟩ hC5' ex_rgt
  rw [ex_p] at H3
  refine H3.mono ?_
  rintro e W6 ⟨rfl, hb6⟩
  clear H3
  have hC6 := Kd.C_below hC5' hb6
  obtain ⟨g6, g6'⟩ := Row.step g5 g5' hb6
  obtain ⟨x6, x6'⟩ := Row.step x5 x5' hb6
  have hB6 : Below w.heap.size w W6 := bk hB5 hB5.size hb6
  clear g5 g5' x5 x5' hC5' hB5 hb6
  have e0 : s0.f0 = 256 := rfl
  go_wp2_with fail
  have H4 := free_k A' 2 c' [s1, s0] g 300 W6 ⟨g6, g6'⟩ hC6 ex_rgt (by decide) (by decide)
  rw [ex_fr] at H4
  refine H4.mono ?_
  rintro e W7 ⟨A7, c7, rfl, hc7, hC7, hb7⟩
  clear H4
  have hB7 : Below w.heap.size w W7 := bk hB6 hB6.size hb7
  have l7 := hB7.size
  clear g6 g6' x6 x6' hC6 hB6 hb7
  go_wp2_with fail
  refine calls_named (fun W_ => (isRow W_ W7.heap.size ∧ rowAt W_ W7.heap.size = #[.int .i64 16, .int .i64 240]) ∧ Kd.C (Kd.int .i64) W_ A7 2 [16, 240] ∧ Below w.heap.size w W_) (by refine ⟨⟨by go_simp, by go_simp⟩, Kd.C_alloc hC7 _, hB7.alloc l7 _⟩) ?_
  rintro W8 ⟨⟨b8, b8'⟩, hC8, hB8⟩
  refine (crierref01_Same.calls 9 A7 c7 [16, 240] (some ⟨W7.heap.size, 0, none⟩) 2 [16, 240] true W8 hC8 hc7 (two_int b8 b8') (Nat.le_refl _) ex_same).mono ?_
  rintro e W9 ⟨rfl, hb9⟩
  have hB9 : Below w.heap.size w W9 := bk hB8 hB8.size hb9.below
  go_wp2
  go_ret
  exact ⟨rfl, hB9⟩
end Go.Proofs.Ytjkbocejdjnfiaa.Bs
