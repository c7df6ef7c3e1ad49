/- Find: what stands at an address. -/
import Derived.Test.YtjkbocejdjnfiaaB0
namespace Go.Proofs.Ytjkbocejdjnfiaa.Bs
open Go.RowKit Go.Shelf Go.Proofs.Ytjkbocejdjnfiaa.IAll Go.Proofs.YtjkbocejdjnfiaaW.PrintWords Go.Proofs.YtjkbocejdjnfiaaW.PrintLast Go.Proofs.YtjkbocejdjnfiaaW.PrintMore
attribute [local go_sem] Oper.semAt_some cell_row frozen_row isRow_setCell_eq rowAt_setCell_same rowAt_setCell_other isRow_alloc_eq rowAt_alloc rowAt_new rowAt_new' isRow_setRow_eq rowAt_setRow_same rowAt_setRow_other isRow_drew rowAt_drew size_setRow_ size_drew_ blk_ptr aggOf_agg below_alloc_e below_setCell_e below_setRow_e below_refl_e below_drew_r isRow_drewN rowAt_drewN below_drewN_e le_add_r asideP_alloc_e asideP_setCell_e asideP_setRow_e asideP_drew_e asideP_drewN_e asideP_refl_e cell_setRow_far cell_setCell_far cell_drew_ heap_setCell_far heap_setRow_far heap_drew_ ES_size ES_one ES_fold ES_0 ES_1 allOne_nil allOne_cons Value.oneCell'
attribute [local go_sem ↓] loadS storeS loadSg storeSg
theorem leave0 {P : Program} {fn : Func} {R : Ending → World → Prop} {tmps : Array Value} {w : World} {v : Value} (hres : (results fn tmps).run P w = .ok v w) (hR : R (.returned v) w) :
    bodyPostM Fence.wide 0 P fn R .ret { tmps := tmps, defers := [] } w := ⟨v, hres, hR⟩
theorem res3 {fn : Func} {p q r : Tmp} {g h i : Nat} {cs : Array Value} {x y : Int} {w : World} (hf : fn.results = #[.cell p 33, .cell q 3, .cell r 25]) (tmps : Array Value) (hp : tmps.getD p undef = .pointer (some ⟨g, 0, none⟩)) (hq : tmps.getD q undef = .pointer (some ⟨h, 0, none⟩)) (hr : tmps.getD r undef = .pointer (some ⟨i, 0, none⟩))
    (hg : Row w g cs) (hs : cs.size = 4) (hh : Row w h #[.int .i64 x]) (hi : Row w i #[.int .i64 y]) : (results fn tmps).run Try.prog w = .ok (.tuple #[.agg cs, .int .i64 x, .int .i64 y]) w := by
  obtain ⟨t, ht⟩ := hg.box
  have hl := run_loadVar_row w g t 33 cs (0, 0) _ ht Try.underlying33 rfl (by rw [hs]; exact infoS)
  have hp' : tmps[p]?.getD undef = .pointer (some ⟨g, 0, none⟩) := by simpa using hp
  have hq' : tmps[q]?.getD undef = .pointer (some ⟨h, 0, none⟩) := by simpa using hq
  have hr' : tmps[r]?.getD undef = .pointer (some ⟨i, 0, none⟩) := by simpa using hr
  have c1 : w.cell? ⟨h, 0, none⟩ = some (.int .i64 x) := by rw [cell_row hh.1, hh.2]; rfl
  have c2 : w.cell? ⟨i, 0, none⟩ = some (.int .i64 y) := by rw [cell_row hi.1, hi.2]; rfl
  simp only [results, hf]
  simp [Result.andThen, asAddr, hp', hq', hr', hl]
  simp [go_sem, c1, c2]
/-- may be accessed? -/
def mayN (T addr wd : Int) : Int := (mem_May.f 5 T addr wd).getD 0
theorem may_is (T addr wd : Int) : mem_May.f 5 T addr wd = some (mayN T addr wd) := by
  have : (mem_May.f 5 T addr wd).isSome = true := by
    unfold mem_May.f
    split
    · rename_i h; subst h; simp [mem_May.j0]; split <;> (try split) <;> (try split) <;> rfl
    · split
      · rename_i h; subst h; simp [mem_May.j0]; split <;> (try split) <;> (try split) <;> rfl
      · by_cases h8 : wd = 8
        · subst h8; simp [mem_May.j0]; split <;> (try split) <;> (try split) <;> rfl
        · have e : (wd != 8) = true := by simpa using h8
          rw [e]; rfl
  obtain ⟨r, hr⟩ := Option.isSome_iff_exists.1 this
  rw [mayN, hr]; rfl
theorem may_c (T addr wd : Int) (w : World) : Calls Try.prog 28 #[.int .i64 T, .int .i64 addr, .int .i64 wd] w fun e w' => e = .returned (.int .i64 (mayN T addr wd)) ∧ Below w.heap.size w w' :=
  (mem_May.calls 5 T addr wd _ w (may_is T addr wd)).mono fun _ _ ⟨he, hd⟩ => ⟨he, hd.below⟩
theorem may_ok {T addr wd : Int} (hT : 8 ≤ T ∧ T ≤ 4611686018427387904) (h : mayN T addr wd = 0) : (wd = 1 ∨ wd = 4 ∨ wd = 8) ∧ 0 ≤ addr ∧ addr ≤ T - wd := by
  have hm := may_is T addr wd
  rw [h] at hm
  unfold mem_May.f at hm
  have key : ∀ wd, (wd = 1 ∨ wd = 4 ∨ wd = 8) → mem_May.j0 5 T addr wd false = some 0 → 0 ≤ addr ∧ addr ≤ T - wd := by
    intro wd hw hm
    rw [mem_May.j0, if_neg (by decide), if_neg (by omega)] at hm
    have e : wrap64 (T - wd) = T - wd := IntWalk.wrap64_in _ (by omega)
    rw [e] at hm
    split at hm
    · split at hm
      · exact absurd hm (by decide)
      · split at hm
        · exact absurd hm (by decide)
        · omega
    · exact absurd hm (by decide)
  split at hm
  · rename_i h1; exact ⟨.inl h1, key wd (.inl h1) hm⟩
  · split at hm
    · rename_i h1; exact ⟨.inr (.inl h1), key wd (.inr (.inl h1)) hm⟩
    · by_cases h8 : wd = 8
      · have e : (wd != 8) = false := by simpa using h8
        rw [e] at hm
        exact ⟨.inr (.inr h8), key wd (.inr (.inr h8)) hm⟩
      · have e : (wd != 8) = true := by simpa using h8
        rw [e, mem_May.j0, if_pos rfl] at hm
        exact absurd hm (by decide)
abbrev TOP : Int := 1099511627776
/-- a span that may be -/
def Rgt (s : Sp) : Prop := 0 ≤ s.f0 ∧ 1 ≤ s.f1 ∧ s.f0 + s.f1 ≤ TOP
def hit (addr wd : Int) (s : Sp) : Bool := decide (s.f0 ≤ addr) && decide (addr - s.f0 ≤ s.f1 - wd)
def fnd (d : List Sp) (addr wd : Int) : Sp × Int × Int :=
  if mayN TOP addr wd = 0 then (match d.find? (hit addr wd) with | some s => (s, addr - s.f0, 0) | none => (z33, 0, 42)) else (z33, 0, mayN TOP addr wd)
theorem ES_z : #[.int .i64 0, .int .i64 0, .int .i64 0, .int .i64 0] = ES z33 := rfl
theorem find_hit {α : Type} {p : α → Bool} {pre post : List α} {x : α} (h1 : ∀ y ∈ pre, p y = false) (h2 : p x = true) : (pre ++ x :: post).find? p = some x := by
  rw [List.find?_append, List.find?_eq_none.2 (by intro y hy; rw [h1 y hy]; decide)]
  simp [h2]
attribute [local go_sem] ES_z
set_option maxRecDepth 100000 in
set_option maxHeartbeats 2000000 in
theorem Find_c (A : Option Addr) (n c : Nat) (d : List Sp) (g : Nat) (addr wd : Int) (w : World) (hg : Row w g #[.slice A n c]) (hr : Kd.C k33 w A n d) (hD : ∀ s ∈ d, Rgt s) :
    Calls Try.prog 13 #[.pointer (some ⟨g, 0, none⟩), .int .i64 addr, .int .i64 wd] w fun e w' => e = .returned (.tuple #[.agg (ES (fnd d addr wd).1), .int .i64 (fnd d addr wd).2.1, .int .i64 (fnd d addr wd).2.2]) ∧ Below w.heap.size w w' := by
  refine calls_of_wide ?_
  refine callsIn_of_wp_marks Try.func13 rfl trivial ?_ rfl
  simp only [Try.ntmps13, List.size_toArray, List.length_cons, List.length_nil, Nat.reduceAdd, Nat.reduceSub, Array.replicate_succ, Array.replicate_zero, List.push_toArray, List.append_toArray, List.nil_append, List.cons_append]
  have lg := hg.lt
  have hA : ∀ ad, A = some ad → 0 < n → ad.block < w.heap.size := by
    rintro ad rfl h0
    exact Kd.C_lt hr h0 (by decide)
  have HM := Lib.hid (fun W' => in_of_calls (may_c TOP addr wd W'))
  gi_wp2_with fail
  refine callsIn_named (fun W_ => (isRow W_ (w.heap.size) ∧ rowAt W_ (w.heap.size) = #[.int .i64 addr]) ∧ (isRow W_ (w.heap.size + 1) ∧ rowAt W_ (w.heap.size + 1) = #[.int .i64 wd]) ∧ (isRow W_ (w.heap.size + 1 + 1) ∧ rowAt W_ (w.heap.size + 1 + 1) = ES z33) ∧ (isRow W_ (w.heap.size + 1 + 1 + 1) ∧ rowAt W_ (w.heap.size + 1 + 1 + 1) = #[.int .i64 0]) ∧ (isRow W_ (w.heap.size + 1 + 1 + 1 + 1) ∧ rowAt W_ (w.heap.size + 1 + 1 + 1 + 1) = #[.int .i64 0]) ∧ Below w.heap.size w W_) (by refine ⟨⟨by go_simp, by go_simp⟩, ⟨by go_simp, by go_simp⟩, ⟨by go_simp, by go_simp⟩, ⟨by go_simp, by go_simp⟩, ⟨by go_simp, by go_simp⟩, (((((Below.refl _ w).alloc (Nat.le_refl _) _).alloc (by simp) _).alloc (by simp; omega) _).alloc (by simp; omega) _).alloc (by simp; omega) _⟩) ?_
  rintro W0 ⟨⟨a1, a1'⟩, ⟨a2, a2'⟩, ⟨a3, a3'⟩, ⟨a4, a4'⟩, ⟨a5, a5'⟩, hB0⟩
  refine (HM.out _).mono ?_
  rintro e W1 ⟨rfl, hb1⟩
  obtain ⟨b1, b1'⟩ := Row.step a1 a1' hb1
  obtain ⟨b2, b2'⟩ := Row.step a2 a2' hb1
  obtain ⟨b3, b3'⟩ := Row.step a3 a3' hb1
  obtain ⟨b4, b4'⟩ := Row.step a4 a4' hb1
  obtain ⟨b5, b5'⟩ := Row.step a5 a5' hb1
  have hB1 : Below w.heap.size w W1 := bk hB0 hB0.size hb1
  clear a1 a1' a2 a2' a3 a3' a4 a4' a5 a5' hB0 hb1 HM
  have pn0_1 : ¬ w.heap.size = w.heap.size + 1 := by omega
  have pn0_2 : ¬ w.heap.size = w.heap.size + 1 + 1 := by omega
  have pn0_3 : ¬ w.heap.size = w.heap.size + 1 + 1 + 1 := by omega
  have pn0_4 : ¬ w.heap.size = w.heap.size + 1 + 1 + 1 + 1 := by omega
  have pn1_0 : ¬ w.heap.size + 1 = w.heap.size := by omega
  have pn1_2 : ¬ w.heap.size + 1 = w.heap.size + 1 + 1 := by omega
  have pn1_3 : ¬ w.heap.size + 1 = w.heap.size + 1 + 1 + 1 := by omega
  have pn1_4 : ¬ w.heap.size + 1 = w.heap.size + 1 + 1 + 1 + 1 := by omega
  have pn2_0 : ¬ w.heap.size + 1 + 1 = w.heap.size := by omega
  have pn2_1 : ¬ w.heap.size + 1 + 1 = w.heap.size + 1 := by omega
  have pn2_3 : ¬ w.heap.size + 1 + 1 = w.heap.size + 1 + 1 + 1 := by omega
  have pn2_4 : ¬ w.heap.size + 1 + 1 = w.heap.size + 1 + 1 + 1 + 1 := by omega
  have pn3_0 : ¬ w.heap.size + 1 + 1 + 1 = w.heap.size := by omega
  have pn3_1 : ¬ w.heap.size + 1 + 1 + 1 = w.heap.size + 1 := by omega
  have pn3_2 : ¬ w.heap.size + 1 + 1 + 1 = w.heap.size + 1 + 1 := by omega
  have pn3_4 : ¬ w.heap.size + 1 + 1 + 1 = w.heap.size + 1 + 1 + 1 + 1 := by omega
  have pn4_0 : ¬ w.heap.size + 1 + 1 + 1 + 1 = w.heap.size := by omega
  have pn4_1 : ¬ w.heap.size + 1 + 1 + 1 + 1 = w.heap.size + 1 := by omega
  have pn4_2 : ¬ w.heap.size + 1 + 1 + 1 + 1 = w.heap.size + 1 + 1 := by omega
  have pn4_3 : ¬ w.heap.size + 1 + 1 + 1 + 1 = w.heap.size + 1 + 1 + 1 := by omega
  by_cases hm : mayN TOP addr wd = 0
  · obtain ⟨hw, ha0, ha1⟩ := may_ok (by decide) hm
    have hf : fnd d addr wd = (match d.find? (hit addr wd) with | some s => (s, addr - s.f0, 0) | none => (z33, 0, 42)) := if_pos hm
    rw [hm]
    clear hm
    have HF := Lib.hid hf
    clear hf
    gi_wp2_with fail
    refine (in_of_calls (Spans_c g W1)).mono ?_
    rintro e W9 ⟨rfl, rfl⟩
    have lw1 := hB1.size
    have l5 := b5.lt
    have hg1 := hg.below hB1 lg
    have hb2 : Below w.heap.size w (W1.alloc (.cells #[.pointer (some ⟨g, 0, none⟩)] 24)) := hB1.alloc lw1 _
    have y1 : Row (W1.alloc (.cells #[.pointer (some ⟨g, 0, none⟩)] 24)) (w.heap.size) #[.int .i64 addr] := ⟨by go_simp, by go_simp⟩
    have y2 : Row (W1.alloc (.cells #[.pointer (some ⟨g, 0, none⟩)] 24)) (w.heap.size + 1) #[.int .i64 wd] := ⟨by go_simp, by go_simp⟩
    have y3 : Row (W1.alloc (.cells #[.pointer (some ⟨g, 0, none⟩)] 24)) (w.heap.size + 1 + 1) (ES z33) := ⟨by go_simp, by go_simp⟩
    have y4 : Row (W1.alloc (.cells #[.pointer (some ⟨g, 0, none⟩)] 24)) (w.heap.size + 1 + 1 + 1) #[.int .i64 0] := ⟨by go_simp, by go_simp⟩
    have y5 : Row (W1.alloc (.cells #[.pointer (some ⟨g, 0, none⟩)] 24)) (w.heap.size + 1 + 1 + 1 + 1) #[.int .i64 0] := ⟨by go_simp, by go_simp⟩
    have y6 : Row (W1.alloc (.cells #[.pointer (some ⟨g, 0, none⟩)] 24)) W1.heap.size #[.pointer (some ⟨g, 0, none⟩)] := ⟨by go_simp, by go_simp⟩
    have y7 : Row (W1.alloc (.cells #[.pointer (some ⟨g, 0, none⟩)] 24)) g #[.slice A n c] := hg.below hb2 lg
    have hs3 : (W1.alloc (.cells #[.pointer (some ⟨g, 0, none⟩)] 24)).heap.size = W1.heap.size + 1 := by simp
    have hrC := Kd.C_below hr hb2
    unfold SpansV
    generalize W1.alloc (.cells #[.pointer (some ⟨g, 0, none⟩)] 24) = W3 at *
    clear b1 b1' b2 b2' b3 b3' b4 b4' b5 b5' hB1 hg1
    gi_wp2_with fail
    refine wp_range (Pv := fun _ => True) (fun _ _ => trivial) rfl (enters_of Try.func35 (by kernel_rfl) rfl) (spans_iter (fun _ => True) (fun _ _ => False) A n c d W1.heap.size g W3 (fun _ => id) (fun _ => id) (fun ad e h _ => id) y6 y7 hrC) (Below.refl _ _)
      (fun h k => h.trans k) (fun W l o o' _ h1 h2 => KeepC.put W l o o' h1 h2) (fun _ => rfl)
      (fun pre W => (∀ y ∈ pre, hit addr wd y = false) ∧ Row W (w.heap.size) #[.int .i64 addr] ∧ Row W (w.heap.size + 1) #[.int .i64 wd] ∧ Row W (w.heap.size + 1 + 1) (ES z33) ∧ Row W (w.heap.size + 1 + 1 + 1) #[.int .i64 0] ∧ Row W (w.heap.size + 1 + 1 + 1 + 1) #[.int .i64 0] ∧ Below w.heap.size w W)
      (fun cd pre W => cd = .ret ∧ ∃ p x, pre = p ++ [x] ∧ (∀ y ∈ p, hit addr wd y = false) ∧ hit addr wd x = true ∧ Row W (w.heap.size + 1 + 1) (ES x) ∧ Row W (w.heap.size + 1 + 1 + 1) #[.int .i64 (addr - x.f0)] ∧ Row W (w.heap.size + 1 + 1 + 1 + 1) #[.int .i64 0] ∧ Below w.heap.size w W)
      ((OwnP.const _ _ (fun pre : List Sp => ∀ y ∈ pre, hit addr wd y = false)).and ((OwnP.row _ (by omega) (fun _ : List Sp => #[.int .i64 addr])).and ((OwnP.row _ (by omega) (fun _ : List Sp => #[.int .i64 wd])).and ((OwnP.row _ (by omega) (fun _ : List Sp => ES z33)).and ((OwnP.row _ (by omega) (fun _ : List Sp => #[.int .i64 0])).and ((OwnP.row _ (by omega) (fun _ : List Sp => #[.int .i64 0])).and (OwnP.below _ (by omega) (by omega))))))))
      (fun cd => by
        rintro pre W W' row ⟨h0, p, x, h1, h2, h3, h4, h5, h6, h7⟩ hgr hrow
        exact ⟨h0, p, x, h1, h2, h3, OwnP.row _ (by omega) (fun _ : Unit => ES x) () W W' row h4 hgr hrow, OwnP.row _ (by omega) (fun _ : Unit => #[.int .i64 (addr - x.f0)]) () W W' row h5 hgr hrow, OwnP.row _ (by omega) (fun _ : Unit => #[.int .i64 0]) () W W' row h6 hgr hrow, OwnP.below (β := Unit) _ (by omega) (by omega) () W W' row h7 hgr hrow⟩)
      ⟨by simp, y1, y2, y3, y4, y5, hb2⟩ ?round ?done ?stop
    case round =>
      rintro l' pre x post W hx hl_ hlt ⟨hpre, ⟨c1, c1'⟩, ⟨c2, c2'⟩, ⟨c3, c3'⟩, ⟨c4, c4'⟩, ⟨c5, c5'⟩, hBW⟩
      have hxD := hD x (by rw [hx]; simp)
      clear hx y1 y2 y3 y4 y5 y6 y7
      have q5 := c5.lt
      have e1 : ¬ w.heap.size = W.heap.size := by omega
      have e2 : ¬ w.heap.size + 1 = W.heap.size := by omega
      have e3 : ¬ w.heap.size + 1 + 1 = W.heap.size := by omega
      have e4 : ¬ w.heap.size + 1 + 1 + 1 = W.heap.size := by omega
      have e5 : ¬ w.heap.size + 1 + 1 + 1 + 1 = W.heap.size := by omega
      have n1 : ¬ W.heap.size = w.heap.size := by omega
      have n2 : ¬ W.heap.size = w.heap.size + 1 := by omega
      have n3 : ¬ W.heap.size = w.heap.size + 1 + 1 := by omega
      have n4 : ¬ W.heap.size = w.heap.size + 1 + 1 + 1 := by omega
      have n5 : ¬ W.heap.size = w.heap.size + 1 + 1 + 1 + 1 := by omega
      gi_wp2
      have hbn : Below W.heap.size W ((W.alloc (.cells (ES z33) 33)).setRow W.heap.size (ES x)) := below_setRow ((Below.refl _ W).alloc (Nat.le_refl _) _) (Nat.le_refl _) _
      refine ⟨KeepsFrom.low hbn, KeepC.low hbn, ⟨hpre, ⟨by go_simp, by go_simp⟩, ⟨by go_simp, by go_simp⟩, ⟨by go_simp, by go_simp⟩, ⟨by go_simp, by go_simp⟩, ⟨by go_simp, by go_simp⟩, bk hBW hBW.size hbn⟩, ?_⟩
      have r7 : Row ((W.alloc (.cells (ES z33) 33)).setRow W.heap.size (ES x)) W.heap.size (ES x) := Row.setRow isRow_new
      rintro U hg ⟨-, ⟨d1, d1'⟩, ⟨d2, d2'⟩, ⟨d3, d3'⟩, ⟨d4, d4'⟩, ⟨d5, d5'⟩, hBU⟩
      obtain ⟨d7, d7'⟩ := Row.kept r7 hg (by intro e; cases e; omega)
      clear hbn r7 hg c1 c1' c2 c2' c3 c3' c4 c4' c5 c5' hBW
      obtain ⟨z0, z1, z2⟩ := hxD
      have w1 : wrap64 (addr - x.f0) = addr - x.f0 := IntWalk.wrap64_in _ (by unfold TOP at *; omega)
      have w2 : wrap64 (x.f1 - wd) = x.f1 - wd := IntWalk.wrap64_in _ (by unfold TOP at *; omega)
      have hlU := d7.lt
      have pq0_1 : ¬ w.heap.size = w.heap.size + 1 := by omega
      have pq0_2 : ¬ w.heap.size = w.heap.size + 1 + 1 := by omega
      have pq0_3 : ¬ w.heap.size = w.heap.size + 1 + 1 + 1 := by omega
      have pq0_4 : ¬ w.heap.size = w.heap.size + 1 + 1 + 1 + 1 := by omega
      have pq0_5 : ¬ w.heap.size = W.heap.size := by omega
      have pq1_0 : ¬ w.heap.size + 1 = w.heap.size := by omega
      have pq1_2 : ¬ w.heap.size + 1 = w.heap.size + 1 + 1 := by omega
      have pq1_3 : ¬ w.heap.size + 1 = w.heap.size + 1 + 1 + 1 := by omega
      have pq1_4 : ¬ w.heap.size + 1 = w.heap.size + 1 + 1 + 1 + 1 := by omega
      have pq1_5 : ¬ w.heap.size + 1 = W.heap.size := by omega
      have pq2_0 : ¬ w.heap.size + 1 + 1 = w.heap.size := by omega
      have pq2_1 : ¬ w.heap.size + 1 + 1 = w.heap.size + 1 := by omega
      have pq2_3 : ¬ w.heap.size + 1 + 1 = w.heap.size + 1 + 1 + 1 := by omega
      have pq2_4 : ¬ w.heap.size + 1 + 1 = w.heap.size + 1 + 1 + 1 + 1 := by omega
      have pq2_5 : ¬ w.heap.size + 1 + 1 = W.heap.size := by omega
      have pq3_0 : ¬ w.heap.size + 1 + 1 + 1 = w.heap.size := by omega
      have pq3_1 : ¬ w.heap.size + 1 + 1 + 1 = w.heap.size + 1 := by omega
      have pq3_2 : ¬ w.heap.size + 1 + 1 + 1 = w.heap.size + 1 + 1 := by omega
      have pq3_4 : ¬ w.heap.size + 1 + 1 + 1 = w.heap.size + 1 + 1 + 1 + 1 := by omega
      have pq3_5 : ¬ w.heap.size + 1 + 1 + 1 = W.heap.size := by omega
      have pq4_0 : ¬ w.heap.size + 1 + 1 + 1 + 1 = w.heap.size := by omega
      have pq4_1 : ¬ w.heap.size + 1 + 1 + 1 + 1 = w.heap.size + 1 := by omega
      have pq4_2 : ¬ w.heap.size + 1 + 1 + 1 + 1 = w.heap.size + 1 + 1 := by omega
      have pq4_3 : ¬ w.heap.size + 1 + 1 + 1 + 1 = w.heap.size + 1 + 1 + 1 := by omega
      have pq4_5 : ¬ w.heap.size + 1 + 1 + 1 + 1 = W.heap.size := by omega
      have pq5_0 : ¬ W.heap.size = w.heap.size := by omega
      have pq5_1 : ¬ W.heap.size = w.heap.size + 1 := by omega
      have pq5_2 : ¬ W.heap.size = w.heap.size + 1 + 1 := by omega
      have pq5_3 : ¬ W.heap.size = w.heap.size + 1 + 1 + 1 := by omega
      have pq5_4 : ¬ W.heap.size = w.heap.size + 1 + 1 + 1 + 1 := by omega
      cases hh : hit addr wd x with
      | true =>
        have hh1 : decide (x.f0 ≤ addr) = true ∧ decide (addr - x.f0 ≤ x.f1 - wd) = true := by simpa [hit] using hh
        obtain ⟨h1, h2⟩ := hh1
        have HH := Lib.hid (And.intro hpre hh)
        clear hh hpre
        have hX : AsideP (In3 (w.heap.size + 1 + 1) (w.heap.size + 1 + 1 + 1) (w.heap.size + 1 + 1 + 1 + 1)) U U := .of_below (Below.refl _ _)
        have w3 : IntKind.i64.wrap (addr - x.f0) = addr - x.f0 := (IntWalk.i64_left _).trans w1
        have hin1 : In3 (w.heap.size + 1 + 1) (w.heap.size + 1 + 1 + 1) (w.heap.size + 1 + 1 + 1 + 1) (w.heap.size + 1 + 1) := in3a
        have hin2 : In3 (w.heap.size + 1 + 1) (w.heap.size + 1 + 1 + 1) (w.heap.size + 1 + 1 + 1 + 1) (w.heap.size + 1 + 1 + 1) := in3b
        have hin3 : In3 (w.heap.size + 1 + 1) (w.heap.size + 1 + 1 + 1) (w.heap.size + 1 + 1 + 1 + 1) (w.heap.size + 1 + 1 + 1 + 1) := in3c
        gi_wp2_with fail
        refine wpIn_named (fun W_ => (isRow W_ (w.heap.size) ∧ rowAt W_ (w.heap.size) = #[.int .i64 addr]) ∧ (isRow W_ (w.heap.size + 1) ∧ rowAt W_ (w.heap.size + 1) = #[.int .i64 wd]) ∧ (isRow W_ (w.heap.size + 1 + 1) ∧ rowAt W_ (w.heap.size + 1 + 1) = (ES z33)) ∧ (isRow W_ (w.heap.size + 1 + 1 + 1) ∧ rowAt W_ (w.heap.size + 1 + 1 + 1) = #[.int .i64 0]) ∧ (isRow W_ (w.heap.size + 1 + 1 + 1 + 1) ∧ rowAt W_ (w.heap.size + 1 + 1 + 1 + 1) = #[.int .i64 0]) ∧ (isRow W_ W.heap.size ∧ rowAt W_ W.heap.size = (ES x)) ∧ AsideP (In3 (w.heap.size + 1 + 1) (w.heap.size + 1 + 1 + 1) (w.heap.size + 1 + 1 + 1 + 1)) U W_) (by refine ⟨⟨by go_simp, by go_simp⟩, ⟨by go_simp, by go_simp⟩, ⟨by go_simp, by go_simp⟩, ⟨by go_simp, by go_simp⟩, ⟨by go_simp, by go_simp⟩, ⟨by go_simp, by go_simp⟩, by go_simp⟩) ?_
        rintro v1 ⟨⟨A_1, A_1'⟩, ⟨D_1, D_1'⟩, ⟨S_1, S_1'⟩, ⟨O_1, O_1'⟩, ⟨E_1, E_1'⟩, ⟨X_1, X_1'⟩, hB_1⟩
        clear d1 d1' d2 d2' d3 d3' d4 d4' d5 d5' d7 d7' hX
        have hz_1 : U.heap.size ≤ v1.heap.size := hB_1.size
        have hl_A_1 := isRow.lt A_1
        have ne_A_1_0 : ¬ (w.heap.size) = v1.heap.size := by omega
        have en_A_1_0 : ¬ v1.heap.size = (w.heap.size) := by omega
        have hl_D_1 := isRow.lt D_1
        have ne_D_1_0 : ¬ (w.heap.size + 1) = v1.heap.size := by omega
        have en_D_1_0 : ¬ v1.heap.size = (w.heap.size + 1) := by omega
        have hl_S_1 := isRow.lt S_1
        have ne_S_1_0 : ¬ (w.heap.size + 1 + 1) = v1.heap.size := by omega
        have en_S_1_0 : ¬ v1.heap.size = (w.heap.size + 1 + 1) := by omega
        have hl_O_1 := isRow.lt O_1
        have ne_O_1_0 : ¬ (w.heap.size + 1 + 1 + 1) = v1.heap.size := by omega
        have en_O_1_0 : ¬ v1.heap.size = (w.heap.size + 1 + 1 + 1) := by omega
        have hl_E_1 := isRow.lt E_1
        have ne_E_1_0 : ¬ (w.heap.size + 1 + 1 + 1 + 1) = v1.heap.size := by omega
        have en_E_1_0 : ¬ v1.heap.size = (w.heap.size + 1 + 1 + 1 + 1) := by omega
        have hl_X_1 := isRow.lt X_1
        have ne_X_1_0 : ¬ W.heap.size = v1.heap.size := by omega
        have en_X_1_0 : ¬ v1.heap.size = W.heap.size := by omega
        refine wpIn_region_held (S := fun w' => (isRow w' (w.heap.size) ∧ rowAt w' (w.heap.size) = #[.int .i64 addr]) ∧ (isRow w' (w.heap.size + 1) ∧ rowAt w' (w.heap.size + 1) = #[.int .i64 wd]) ∧ (isRow w' (w.heap.size + 1 + 1) ∧ (rowAt w' (w.heap.size + 1 + 1)).size = 4) ∧ (isRow w' (w.heap.size + 1 + 1 + 1) ∧ (rowAt w' (w.heap.size + 1 + 1 + 1)).size = 1) ∧ (isRow w' (w.heap.size + 1 + 1 + 1 + 1) ∧ (rowAt w' (w.heap.size + 1 + 1 + 1 + 1)).size = 1) ∧ (isRow w' W.heap.size ∧ rowAt w' W.heap.size = (ES x)) ∧ AsideP (In3 (w.heap.size + 1 + 1) (w.heap.size + 1 + 1 + 1) (w.heap.size + 1 + 1 + 1 + 1)) U w') (by kernel_rfl) (by kernel_rfl) (by rintro ⟨_, _, h_⟩; exact h_) ⟨⟨by go_simp, by go_simp⟩, ⟨by go_simp, by go_simp⟩, ⟨by go_simp, by go_simp⟩, ⟨by go_simp, by go_simp⟩, ⟨by go_simp, by go_simp⟩, ⟨by go_simp, by go_simp⟩, by go_simp⟩ (fun hHeld => ?_)
        refine wpAnyH_take (i := 0) (oi := ⟨some 36, .load 33 (.tmp 10), 33, "bus.go:59", #[], none⟩) (v := ?_) rfl (by kernel_rfl) (by kernel_rfl) (by kernel_rfl) (fun _ _ _ h => h) (Or.inl ⟨by rfl, ?_⟩) (by assumption) ?_
        rotate_left
        · (intro w_ hS_; (try dsimp only at hS_); go_simp; try with_reducible rfl)
        try simp only [Act.put, List.setIfInBounds_toArray, List.set_cons_zero, List.set_cons_succ]
        refine wpAnyH_take (i := 1) (oi := ⟨some 37, .load 3 (.tmp 4), 3, "bus.go:59", #[⟨5, .gcOnly .lateStores⟩], none⟩) (v := ?_) rfl (by kernel_rfl) (by kernel_rfl) (by kernel_rfl) (fun _ _ _ h => h) (Or.inl ⟨by rfl, ?_⟩) (by assumption) ?_
        rotate_left
        · (intro w_ hS_; (try dsimp only at hS_); go_simp; try with_reducible rfl)
        try simp only [Act.put, List.setIfInBounds_toArray, List.set_cons_zero, List.set_cons_succ]
        refine wpAnyH_take (i := 2) (oi := ⟨some 38, .fieldAddr 33 (.tmp 10) 0, 0, "bus.go:59", #[⟨5, .gcOnly .lateStores⟩], none⟩) (v := ?_) rfl (by kernel_rfl) (by kernel_rfl) (by kernel_rfl) (fun _ _ _ h => h) (Or.inl ⟨by rfl, ?_⟩) (by assumption) ?_
        rotate_left
        · (intro w_ hS_; (try dsimp only at hS_); go_simp; try with_reducible rfl)
        try simp only [Act.put, List.setIfInBounds_toArray, List.set_cons_zero, List.set_cons_succ]
        refine wpAnyH_take (i := 3) (oi := ⟨some 39, .load 3 (.tmp 38), 3, "bus.go:59", #[⟨2, .data⟩, ⟨5, .gcOnly .lateStores⟩], none⟩) (v := ?_) rfl (by kernel_rfl) (by kernel_rfl) (by kernel_rfl) (fun _ _ _ h => h) (Or.inl ⟨by rfl, ?_⟩) (by assumption) ?_
        rotate_left
        · (intro w_ hS_; (try dsimp only at hS_); go_simp; try with_reducible rfl)
        try simp only [Act.put, List.setIfInBounds_toArray, List.set_cons_zero, List.set_cons_succ]
        refine wpAnyH_take (i := 4) (oi := ⟨some 40, .binOp .sub 3 (.tmp 37) (.tmp 39) 3, 3, "bus.go:59", #[⟨1, .data⟩, ⟨3, .data⟩, ⟨5, .gcOnly .lateStores⟩], none⟩) (v := ?_) rfl (by kernel_rfl) (by kernel_rfl) (by kernel_rfl) (fun _ _ _ h => h) (Or.inl ⟨by rfl, ?_⟩) (by assumption) ?_
        rotate_left
        · (intro w_ hS_; (try dsimp only at hS_); go_simp; try with_reducible rfl)
        try simp only [Act.put, List.setIfInBounds_toArray, List.set_cons_zero, List.set_cons_succ]
        refine wpAnyH_ready (rs := [5]) (by kernel_rfl) (by simp) ?_
        refine AllReadyH.cons (o := ⟨none, .store 33 (.tmp 6) (.tmp 36), 0, "bus.go:59", #[⟨0, .data⟩, ⟨0, .phase⟩, ⟨1, .textOnly .lateStores⟩, ⟨2, .textOnly .lateStores⟩, ⟨3, .textOnly .lateStores⟩, ⟨4, .textOnly .lateStores⟩], none⟩) rfl (fun K hK => ?_) AllReadyH.nil
        (have hq_ := hHeld; (try dsimp only at hq_))
        obtain ⟨⟨PA_2_1, PA_2_1'⟩, ⟨PD_2_1, PD_2_1'⟩, ⟨PS_2_1, PS_2_1'⟩, ⟨PO_2_1, PO_2_1'⟩, ⟨PE_2_1, PE_2_1'⟩, ⟨PX_2_1, PX_2_1'⟩, hF_2_1⟩ := hq_
        go_simp
        refine hK.out _ _ ?_ (fun hHeld => ?_)
        · (refine ⟨⟨by go_simp, by go_simp⟩, ⟨by go_simp, by go_simp⟩, ⟨by go_simp, by go_simp⟩, ⟨by go_simp, by go_simp⟩, ⟨by go_simp, by go_simp⟩, ⟨by go_simp, by go_simp⟩, by go_simp⟩)
        clear hK K
        try simp only [Act.put, List.setIfInBounds_toArray, List.set_cons_zero, List.set_cons_succ]
        refine wpAnyH_ready (rs := [6]) (by kernel_rfl) (by simp) ?_
        refine AllReadyH.cons (o := ⟨none, .store 3 (.tmp 7) (.tmp 40), 0, "bus.go:59", #[⟨4, .data⟩, ⟨5, .chain⟩, ⟨0, .phase⟩, ⟨1, .phase⟩, ⟨2, .phase⟩, ⟨3, .phase⟩, ⟨4, .phase⟩, ⟨5, .phase⟩], none⟩) rfl (fun K hK => ?_) AllReadyH.nil
        (have hq_ := hHeld; (try dsimp only at hq_))
        obtain ⟨⟨PA_2_2, PA_2_2'⟩, ⟨PD_2_2, PD_2_2'⟩, ⟨PS_2_2, PS_2_2'⟩, ⟨PO_2_2, PO_2_2'⟩, ⟨PE_2_2, PE_2_2'⟩, ⟨PX_2_2, PX_2_2'⟩, hF_2_2⟩ := hq_
        go_simp
        refine hK.out _ _ ?_ (fun hHeld => ?_)
        · (refine ⟨⟨by go_simp, by go_simp⟩, ⟨by go_simp, by go_simp⟩, ⟨by go_simp, by go_simp⟩, ⟨by go_simp, by go_simp⟩, ⟨by go_simp, by go_simp⟩, ⟨by go_simp, by go_simp⟩, by go_simp⟩)
        clear hK K
        try simp only [Act.put, List.setIfInBounds_toArray, List.set_cons_zero, List.set_cons_succ]
        refine wpAnyH_ready (rs := [7]) (by kernel_rfl) (by simp) ?_
        refine AllReadyH.cons (o := ⟨none, .store 25 (.tmp 8) (.const (.int .i64 0)), 0, "bus.go:59", #[⟨6, .chain⟩, ⟨0, .phase⟩, ⟨1, .phase⟩, ⟨2, .phase⟩, ⟨3, .phase⟩, ⟨4, .phase⟩, ⟨5, .phase⟩, ⟨6, .phase⟩], none⟩) rfl (fun K hK => ?_) AllReadyH.nil
        (have hq_ := hHeld; (try dsimp only at hq_))
        obtain ⟨⟨PA_2_3, PA_2_3'⟩, ⟨PD_2_3, PD_2_3'⟩, ⟨PS_2_3, PS_2_3'⟩, ⟨PO_2_3, PO_2_3'⟩, ⟨PE_2_3, PE_2_3'⟩, ⟨PX_2_3, PX_2_3'⟩, hF_2_3⟩ := hq_
        go_simp
        refine hK.out _ _ ?_ (fun hHeld => ?_)
        · (refine ⟨⟨by go_simp, by go_simp⟩, ⟨by go_simp, by go_simp⟩, ⟨by go_simp, by go_simp⟩, ⟨by go_simp, by go_simp⟩, ⟨by go_simp, by go_simp⟩, ⟨by go_simp, by go_simp⟩, by go_simp⟩)
        clear hK K
        try simp only [Act.put, List.setIfInBounds_toArray, List.set_cons_zero, List.set_cons_succ]
        refine wpAnyH_done (by kernel_rfl) ?_ _
        (try dsimp only at hHeld)
        go_split_ands
        gi_wp2
        refine ⟨KeepsFrom.aside (P := In3 (w.heap.size + 1 + 1) (w.heap.size + 1 + 1 + 1) (w.heap.size + 1 + 1 + 1 + 1)) (by assumption) (fun k hk => by unfold In3 at hk; omega), rfl, pre, x, rfl, HH.out.1, HH.out.2, ⟨by go_simp, by go_simp⟩, ⟨by go_simp, by go_simp⟩, ⟨by go_simp, by go_simp⟩, AsideP.below (P := In3 (w.heap.size + 1 + 1) (w.heap.size + 1 + 1 + 1) (w.heap.size + 1 + 1 + 1 + 1)) (by assumption) hBU (fun k hk => by unfold In3 at hk; omega) hBU.size⟩
      | false =>
        have HH := Lib.hid (And.intro hpre hh)
        clear hpre
        by_cases h1 : x.f0 ≤ addr
        · have h2 : ¬ addr - x.f0 ≤ x.f1 - wd := by intro h; rw [hit, decide_eq_true h1, decide_eq_true h] at hh; cases hh
          have h1' := decide_eq_true h1
          have h2' := decide_eq_false h2
          clear hh h1 h2
          gi_wp2
          refine ⟨KeepsFrom.refl _ _, KeepC.refl _ _, fun y hy => ?_, ⟨d1, d1'⟩, ⟨d2, d2'⟩, ⟨d3, d3'⟩, ⟨d4, d4'⟩, ⟨d5, d5'⟩, hBU⟩
          rcases List.mem_append.1 hy with h | h
          · exact HH.out.1 y h
          · rw [List.mem_singleton] at h
            rw [h]
            exact HH.out.2
        · have h1' := decide_eq_false h1
          clear hh h1
          gi_wp2
          refine ⟨KeepsFrom.refl _ _, KeepC.refl _ _, fun y hy => ?_, ⟨d1, d1'⟩, ⟨d2, d2'⟩, ⟨d3, d3'⟩, ⟨d4, d4'⟩, ⟨d5, d5'⟩, hBU⟩
          rcases List.mem_append.1 hy with h | h
          · exact HH.out.1 y h
          · rw [List.mem_singleton] at h
            rw [h]
            exact HH.out.2
    case done =>
      rintro D W hD ⟨hpre, ⟨c1, c1'⟩, ⟨c2, c2'⟩, ⟨c3, c3'⟩, ⟨c4, c4'⟩, ⟨c5, c5'⟩, hBW⟩ hK
      have hfn : d.find? (hit addr wd) = none := List.find?_eq_none.2 (by intro y hy; rw [hpre y hy]; decide)
      have HN := Lib.hid hfn
      clear hfn hpre y1 y2 y3 y4 y5 y6 y7
      have e3 : ¬ D = w.heap.size + 1 + 1 := by omega
      have e4 : ¬ D = w.heap.size + 1 + 1 + 1 := by omega
      have e5 : ¬ D = w.heap.size + 1 + 1 + 1 + 1 := by omega
      gi_wp2
      have f1 : Row (((W.setRow (w.heap.size + 1 + 1) (ES z33)).setCell ⟨w.heap.size + 1 + 1 + 1, 0, none⟩ (.int .i64 0)).setCell ⟨w.heap.size + 1 + 1 + 1 + 1, 0, none⟩ (.int .i64 42)) (w.heap.size + 1 + 1) (ES z33) := ⟨by go_simp, by go_simp⟩
      have f2 : Row (((W.setRow (w.heap.size + 1 + 1) (ES z33)).setCell ⟨w.heap.size + 1 + 1 + 1, 0, none⟩ (.int .i64 0)).setCell ⟨w.heap.size + 1 + 1 + 1 + 1, 0, none⟩ (.int .i64 42)) (w.heap.size + 1 + 1 + 1) #[.int .i64 0] := ⟨by go_simp, by go_simp⟩
      have f3 : Row (((W.setRow (w.heap.size + 1 + 1) (ES z33)).setCell ⟨w.heap.size + 1 + 1 + 1, 0, none⟩ (.int .i64 0)).setCell ⟨w.heap.size + 1 + 1 + 1 + 1, 0, none⟩ (.int .i64 42)) (w.heap.size + 1 + 1 + 1 + 1) #[.int .i64 42] := ⟨by go_simp, by go_simp⟩
      have fK : (((W.setRow (w.heap.size + 1 + 1) (ES z33)).setCell ⟨w.heap.size + 1 + 1 + 1, 0, none⟩ (.int .i64 0)).setCell ⟨w.heap.size + 1 + 1 + 1 + 1, 0, none⟩ (.int .i64 42)).heap[D]? = some (.deferred (some [])) := by go_simp
      have fB : Below w.heap.size w (((W.setRow (w.heap.size + 1 + 1) (ES z33)).setCell ⟨w.heap.size + 1 + 1 + 1, 0, none⟩ (.int .i64 0)).setCell ⟨w.heap.size + 1 + 1 + 1 + 1, 0, none⟩ (.int .i64 42)) := ((below_setRow hBW (by omega) _).setCell (p := ⟨_, 0, none⟩) (by simp; omega) _).setCell (p := ⟨_, 0, none⟩) (by simp; omega) _
      exact leave_mark fK (v := .tuple #[.agg (ES z33), .int .i64 0, .int .i64 42]) (res3 rfl _ rfl rfl rfl (f1.same (World.putObj_heap_other (fun e => e3 e.symm))) rfl (f2.same (World.putObj_heap_other (fun e => e4 e.symm))) (f3.same (World.putObj_heap_other (fun e => e5 e.symm)))) ⟨by rw [HF.out, HN.out], below_putD fB (by omega) _⟩
    case stop =>
      rintro D cd pre x post W hx hD ⟨rfl, p, x', hp, h1, h2, f1, f2, f3, hBW⟩ hK
      obtain ⟨rfl, rfl⟩ : pre = p ∧ x = x' := by simpa using hp
      have hfn : d.find? (hit addr wd) = some x := by rw [hx]; exact find_hit h1 h2
      have HN := Lib.hid hfn
      clear hfn h1 h2 hx hp y1 y2 y3 y4 y5 y6 y7
      have e3 : ¬ D = w.heap.size + 1 + 1 := by omega
      have e4 : ¬ D = w.heap.size + 1 + 1 + 1 := by omega
      have e5 : ¬ D = w.heap.size + 1 + 1 + 1 + 1 := by omega
      gi_wp2
      exact leave_mark hK (v := .tuple #[.agg (ES x), .int .i64 (addr - x.f0), .int .i64 0]) (res3 rfl _ rfl rfl rfl (f1.same (World.putObj_heap_other (fun e => e3 e.symm))) rfl (f2.same (World.putObj_heap_other (fun e => e4 e.symm))) (f3.same (World.putObj_heap_other (fun e => e5 e.symm)))) ⟨by rw [HF.out, HN.out], below_putD hBW (by omega) _⟩
  · have hf : fnd d addr wd = (z33, 0, mayN TOP addr wd) := if_neg hm
    have HF := Lib.hid hf
    clear hf
    generalize mayN TOP addr wd = e at *
    have he : (e != 0) = true := by simpa using hm
    gi_wp2
    exact leave0 (v := .tuple #[.agg (ES z33), .int .i64 0, .int .i64 e]) (res3 rfl _ rfl rfl rfl ⟨by go_simp, by go_simp⟩ rfl ⟨by go_simp, by go_simp⟩ ⟨by go_simp, by go_simp⟩) ⟨by rw [HF.out], ((below_setRow hB1 (by omega) _).setCell (p := ⟨_, 0, none⟩) (by simp; omega) _).setCell (p := ⟨_, 0, none⟩) (by simp; omega) _⟩
end Go.Proofs.Ytjkbocejdjnfiaa.Bs
