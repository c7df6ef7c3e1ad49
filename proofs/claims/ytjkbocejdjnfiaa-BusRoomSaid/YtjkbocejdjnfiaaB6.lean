/- Place: where there is room. -/
import Derived.Test.YtjkbocejdjnfiaaB5
namespace Go.Proofs.Ytjkbocejdjnfiaa.Bs
open Go.RowKit Go.Shelf Go.Proofs.Ytjkbocejdjnfiaa.IAll Go.Proofs.YtjkbocejdjnfiaaW.PrintWords Go.Proofs.YtjkbocejdjnfiaaW.PrintLast Go.Proofs.YtjkbocejdjnfiaaW.PrintMore
attribute [local go_sem] Oper.semAt_some cell_row frozen_row isRow_setCell_eq rowAt_setCell_same rowAt_setCell_other isRow_alloc_eq rowAt_alloc rowAt_new rowAt_new' isRow_setRow_eq rowAt_setRow_same rowAt_setRow_other isRow_drew rowAt_drew size_setRow_ size_drew_ blk_ptr aggOf_agg below_alloc_e below_setCell_e below_setRow_e below_refl_e below_drew_r isRow_drewN rowAt_drewN below_drewN_e le_add_r asideP_alloc_e asideP_setCell_e asideP_setRow_e asideP_drew_e asideP_drewN_e asideP_refl_e cell_setRow_far cell_setCell_far cell_drew_ heap_setCell_far heap_setRow_far heap_drew_ ES_size ES_one ES_fold ES_0 ES_1 allOne_nil allOne_cons Value.oneCell'
attribute [local go_sem ↓] loadS storeS loadSg storeSg
theorem fold_bd {e : Int} : ∀ (d : List Sp) (a : List (Int × Int) × Int), (∀ s ∈ d, Rgt s) → 0 ≤ a.2 → (∀ p ∈ a.1, 0 ≤ p.1 ∧ 1 ≤ p.2 ∧ p.1 + p.2 ≤ e) → ∀ p ∈ (d.foldl (stp e) a).1, 0 ≤ p.1 ∧ 1 ≤ p.2 ∧ p.1 + p.2 ≤ e
  | [], a, _, _, h => h
  | x :: r, a, hD, h0, h => by
    obtain ⟨x0, x1, x2⟩ := hD x (by simp)
    refine fold_bd r (stp e a x) (fun s hs => hD s (by simp [hs])) (by show 0 ≤ x.f0 + x.f1; omega) ?_
    intro p hp
    rw [stp] at hp
    rcases List.mem_append.1 hp with h1 | h1
    · exact h p h1
    · split at h1
      · rw [List.mem_singleton] at h1
        rw [h1]
        simp only
        omega
      · cases h1
theorem fr_bd {e : Int} {d : List Sp} (hD : ∀ s ∈ d, Rgt s) : ∀ p ∈ fr e d, 0 ≤ p.1 ∧ 1 ≤ p.2 ∧ p.1 + p.2 ≤ e := by
  intro p hp
  rw [fr] at hp
  obtain ⟨h0, -⟩ := frp_at (e := e) hD
  rcases List.mem_append.1 hp with h | h
  · exact fold_bd d ([], 0) hD (Int.le_refl 0) (by intro p h; cases h) p h
  · split at h
    · rw [List.mem_singleton] at h
      rw [h]
      simp only
      omega
    · cases h
theorem results_cc2 {fn : Func} {q r : Tmp} {h i : Nat} {x y : Int} {w : World} (hf : fn.results = #[.cell q 3, .cell r 25]) (tmps : Array Value) (hq : tmps.getD q undef = .pointer (some ⟨h, 0, none⟩)) (hr : tmps.getD r undef = .pointer (some ⟨i, 0, none⟩))
    (hh : Row w h #[.int .i64 x]) (hi : Row w i #[.int .i64 y]) : (results fn tmps).run Try.prog w = .ok (.tuple #[.int .i64 x, .int .i64 y]) w := by
  have hq' : tmps[q]?.getD undef = .pointer (some ⟨h, 0, none⟩) := by simpa using hq
  have hr' : tmps[r]?.getD undef = .pointer (some ⟨i, 0, none⟩) := by simpa using hr
  have c1 : w.cell? ⟨h, 0, none⟩ = some (.int .i64 x) := by rw [cell_row hh.1, hh.2]; rfl
  have c2 : w.cell? ⟨i, 0, none⟩ = some (.int .i64 y) := by rw [cell_row hi.1, hi.2]; rfl
  simp only [results, hf]
  simp [Result.andThen, asAddr, hq', hr']
  simp [go_sem, c1, c2]
def plcAt (at' step : Int) : Int := (at' + step - 1) / step * step
def hitP (size step : Int) (p : Int × Int) : Bool := decide (plcAt p.1 step - p.1 ≤ p.2 - size)
def argBad (size step e : Int) : Prop := size < 1 ∨ TOP < size ∨ step < 1 ∨ TOP < step ∨ e < 0 ∨ TOP < e
instance (size step e : Int) : Decidable (argBad size step e) := by unfold argBad; infer_instance
def plc (d : List Sp) (size step e : Int) : Int × Int :=
  if argBad size step e then (0, 1) else match (fr e d).find? (hitP size step) with | some p => (plcAt p.1 step, 0) | none => (0, 2)
theorem plcAt_bd {a step : Int} (h0 : 0 ≤ a) (h1 : 1 ≤ step) : 0 ≤ plcAt a step ∧ plcAt a step ≤ a + step - 1 := by
  unfold plcAt
  have hd : 0 ≤ (a + step - 1) / step := Int.ediv_nonneg (by omega) (by omega)
  have hm := Int.emod_add_mul_ediv (a + step - 1) step
  have hn := Int.emod_nonneg (a + step - 1) (show step ≠ 0 by omega)
  have hp : 0 ≤ (a + step - 1) / step * step := Int.mul_nonneg hd (by omega)
  rw [Int.mul_comm] at hm
  omega
set_option maxRecDepth 100000 in
set_option maxHeartbeats 4000000 in
theorem Place_c (A : Option Addr) (n c : Nat) (d : List Sp) (g : Nat) (size step e : Int) (w : World) (hg : Row w g #[.slice A n c]) (hr : Kd.C k33 w A n d) (hD : ∀ s ∈ d, Rgt s) :
    Calls Try.prog 16 #[.pointer (some ⟨g, 0, none⟩), .int .i64 size, .int .i64 step, .int .i64 e] w fun en w' => en = .returned (.tuple #[.int .i64 (plc d size step e).1, .int .i64 (plc d size step e).2]) ∧ Below w.heap.size w w' := by
  refine calls_of_wide ?_
  refine callsIn_of_wp_marks Try.func16 rfl trivial ?_ rfl
  simp only [Try.ntmps16, List.size_toArray, List.length_cons, List.length_nil, Nat.reduceAdd, Nat.reduceSub, Array.replicate_succ, Array.replicate_zero, List.push_toArray, List.append_toArray, List.nil_append, List.cons_append]
  have lg := hg.lt
  have hA : ∀ ad, A = some ad → 0 < n → ad.block < w.heap.size := by
    rintro ad rfl h0
    exact Kd.C_lt hr h0 (by decide)
  have pn0_1 : ¬ w.heap.size = w.heap.size + 1 := by omega
  have pn0_2 : ¬ w.heap.size = w.heap.size + 1 + 1 := by omega
  have pn0_3 : ¬ w.heap.size = w.heap.size + 1 + 1 + 1 := by omega
  have pn1_0 : ¬ w.heap.size + 1 = w.heap.size := by omega
  have pn1_2 : ¬ w.heap.size + 1 = w.heap.size + 1 + 1 := by omega
  have pn1_3 : ¬ w.heap.size + 1 = w.heap.size + 1 + 1 + 1 := by omega
  have pn2_0 : ¬ w.heap.size + 1 + 1 = w.heap.size := by omega
  have pn2_1 : ¬ w.heap.size + 1 + 1 = w.heap.size + 1 := by omega
  have pn2_3 : ¬ w.heap.size + 1 + 1 = w.heap.size + 1 + 1 + 1 := by omega
  have pn3_0 : ¬ w.heap.size + 1 + 1 + 1 = w.heap.size := by omega
  have pn3_1 : ¬ w.heap.size + 1 + 1 + 1 = w.heap.size + 1 := by omega
  have pn3_2 : ¬ w.heap.size + 1 + 1 + 1 = w.heap.size + 1 + 1 := by omega
  have hbw : Below w.heap.size w ((((w.alloc (.cells #[.int .i64 size] 3)).alloc (.cells #[.int .i64 step] 3)).alloc (.cells #[.int .i64 0] 3)).alloc (.cells #[.int .i64 0] 25)) := ((((Below.refl _ w).alloc (Nat.le_refl _) _).alloc (by simp) _).alloc (by simp; omega) _).alloc (by simp; omega) _
  by_cases h0 : size < 1
  · have hb : argBad size step e := .inl h0
    have q0 := decide_eq_true h0
    gi_wp2
    exact leave0 (v := .tuple #[.int .i64 0, .int .i64 1]) (results_cc2 rfl _ rfl rfl ⟨by go_simp, by go_simp⟩ ⟨by go_simp, by go_simp⟩) ⟨by rw [plc, if_pos hb], ((((Below.refl _ w).alloc (Nat.le_refl _) _).alloc (by simp) _).alloc (by simp; omega) _).alloc (by simp; omega) _⟩
  have q0 := decide_eq_false h0
  by_cases h1 : 1099511627776 < size
  · have hb : argBad size step e := .inr (.inl h1)
    have q1 := decide_eq_true h1
    gi_wp2
    exact leave0 (v := .tuple #[.int .i64 0, .int .i64 1]) (results_cc2 rfl _ rfl rfl ⟨by go_simp, by go_simp⟩ ⟨by go_simp, by go_simp⟩) ⟨by rw [plc, if_pos hb], ((((Below.refl _ w).alloc (Nat.le_refl _) _).alloc (by simp) _).alloc (by simp; omega) _).alloc (by simp; omega) _⟩
  have q1 := decide_eq_false h1
  by_cases h2 : step < 1
  · have hb : argBad size step e := .inr (.inr (.inl h2))
    have q2 := decide_eq_true h2
    gi_wp2
    exact leave0 (v := .tuple #[.int .i64 0, .int .i64 1]) (results_cc2 rfl _ rfl rfl ⟨by go_simp, by go_simp⟩ ⟨by go_simp, by go_simp⟩) ⟨by rw [plc, if_pos hb], ((((Below.refl _ w).alloc (Nat.le_refl _) _).alloc (by simp) _).alloc (by simp; omega) _).alloc (by simp; omega) _⟩
  have q2 := decide_eq_false h2
  by_cases h3 : 1099511627776 < step
  · have hb : argBad size step e := .inr (.inr (.inr (.inl h3)))
    have q3 := decide_eq_true h3
    gi_wp2
    exact leave0 (v := .tuple #[.int .i64 0, .int .i64 1]) (results_cc2 rfl _ rfl rfl ⟨by go_simp, by go_simp⟩ ⟨by go_simp, by go_simp⟩) ⟨by rw [plc, if_pos hb], ((((Below.refl _ w).alloc (Nat.le_refl _) _).alloc (by simp) _).alloc (by simp; omega) _).alloc (by simp; omega) _⟩
  have q3 := decide_eq_false h3
  by_cases h4 : e < 0
  · have hb : argBad size step e := .inr (.inr (.inr (.inr (.inl h4))))
    have q4 := decide_eq_true h4
    gi_wp2
    exact leave0 (v := .tuple #[.int .i64 0, .int .i64 1]) (results_cc2 rfl _ rfl rfl ⟨by go_simp, by go_simp⟩ ⟨by go_simp, by go_simp⟩) ⟨by rw [plc, if_pos hb], ((((Below.refl _ w).alloc (Nat.le_refl _) _).alloc (by simp) _).alloc (by simp; omega) _).alloc (by simp; omega) _⟩
  have q4 := decide_eq_false h4
  by_cases h5 : 1099511627776 < e
  · have hb : argBad size step e := .inr (.inr (.inr (.inr (.inr h5))))
    have q5 := decide_eq_true h5
    gi_wp2
    exact leave0 (v := .tuple #[.int .i64 0, .int .i64 1]) (results_cc2 rfl _ rfl rfl ⟨by go_simp, by go_simp⟩ ⟨by go_simp, by go_simp⟩) ⟨by rw [plc, if_pos hb], ((((Below.refl _ w).alloc (Nat.le_refl _) _).alloc (by simp) _).alloc (by simp; omega) _).alloc (by simp; omega) _⟩
  have q5 := decide_eq_false h5
  have hnb : ¬ argBad size step e := by unfold argBad TOP; omega
  have HF := Lib.hid (show plc d size step e = (match (fr e d).find? (hitP size step) with | some p => (plcAt p.1 step, 0) | none => (0, 2)) from if_neg hnb)
  clear hnb
  gi_wp2_with fail
  refine callsIn_named (fun W_ => (isRow W_ (w.heap.size) ∧ rowAt W_ (w.heap.size) = #[.int .i64 size]) ∧ (isRow W_ (w.heap.size + 1) ∧ rowAt W_ (w.heap.size + 1) = #[.int .i64 step]) ∧ (isRow W_ (w.heap.size + 1 + 1) ∧ rowAt W_ (w.heap.size + 1 + 1) = #[.int .i64 0]) ∧ (isRow W_ (w.heap.size + 1 + 1 + 1) ∧ rowAt W_ (w.heap.size + 1 + 1 + 1) = #[.int .i64 0]) ∧ Below w.heap.size w W_) (by refine ⟨⟨by go_simp, by go_simp⟩, ⟨by go_simp, by go_simp⟩, ⟨by go_simp, by go_simp⟩, ⟨by go_simp, by go_simp⟩, hbw⟩) ?_
  rintro W1 ⟨⟨b1, b1'⟩, ⟨b2, b2'⟩, ⟨b3, b3'⟩, ⟨b4, b4'⟩, hB1⟩
  clear hbw
  refine (in_of_calls (Free_c g e W1)).mono ?_
  rintro en W9 ⟨rfl, rfl⟩
  have lw1 := hB1.size
  have l5 := b4.lt
  have hb2 : Below w.heap.size w ((W1.alloc (.cells #[.pointer (some ⟨g, 0, none⟩)] 24)).alloc (.cells #[.int .i64 e] 3)) := (hB1.alloc lw1 _).alloc (by simp; omega) _
  have y1 : Row ((W1.alloc (.cells #[.pointer (some ⟨g, 0, none⟩)] 24)).alloc (.cells #[.int .i64 e] 3)) (w.heap.size) #[.int .i64 size] := row_alloc (row_alloc ⟨b1, b1'⟩)
  have y2 : Row ((W1.alloc (.cells #[.pointer (some ⟨g, 0, none⟩)] 24)).alloc (.cells #[.int .i64 e] 3)) (w.heap.size + 1) #[.int .i64 step] := row_alloc (row_alloc ⟨b2, b2'⟩)
  have y3 : Row ((W1.alloc (.cells #[.pointer (some ⟨g, 0, none⟩)] 24)).alloc (.cells #[.int .i64 e] 3)) (w.heap.size + 1 + 1) #[.int .i64 0] := row_alloc (row_alloc ⟨b3, b3'⟩)
  have y4 : Row ((W1.alloc (.cells #[.pointer (some ⟨g, 0, none⟩)] 24)).alloc (.cells #[.int .i64 e] 3)) (w.heap.size + 1 + 1 + 1) #[.int .i64 0] := row_alloc (row_alloc ⟨b4, b4'⟩)
  have y5 : Row ((W1.alloc (.cells #[.pointer (some ⟨g, 0, none⟩)] 24)).alloc (.cells #[.int .i64 e] 3)) W1.heap.size #[.pointer (some ⟨g, 0, none⟩)] := row_alloc (Row.new W1 _ _)
  have y6 : Row ((W1.alloc (.cells #[.pointer (some ⟨g, 0, none⟩)] 24)).alloc (.cells #[.int .i64 e] 3)) (W1.heap.size + 1) #[.int .i64 e] := by have := Row.new (W1.alloc (.cells #[.pointer (some ⟨g, 0, none⟩)] 24)) 3 #[.int .i64 e]; rwa [World.size_alloc] at this
  have y7 : Row ((W1.alloc (.cells #[.pointer (some ⟨g, 0, none⟩)] 24)).alloc (.cells #[.int .i64 e] 3)) g #[.slice A n c] := hg.below hb2 lg
  have hs3 : ((W1.alloc (.cells #[.pointer (some ⟨g, 0, none⟩)] 24)).alloc (.cells #[.int .i64 e] 3)).heap.size = W1.heap.size + 2 := by simp
  have hrC := Kd.C_below hr hb2
  unfold FreeV
  generalize (W1.alloc (.cells #[.pointer (some ⟨g, 0, none⟩)] 24)).alloc (.cells #[.int .i64 e] 3) = W3 at *
  clear b1 b1' b2 b2' b3 b3' b4 b4' hB1
  gi_wp2_with fail
  refine wp_range (Pv := fun _ => True) (fun _ _ => trivial) rfl (enters_of Try.func36 (by kernel_rfl) rfl) (free_iter (fun _ => True) (fun _ _ => trivial) (fun _ => trivial) (fun _ _ => False) A n c d e W1.heap.size (W1.heap.size + 1) g W3 (fun _ _ _ _ h => h) (fun _ _ _ h => h) (fun _ h => h) (fun _ h => h) (fun _ h => h) (fun _ _ _ _ h => h) y5 y6 y7 hrC hD (by omega)) (Below.refl _ _)
    (fun h k => h.trans k) (fun W l o o' _ h1 h2 => KeepC.put W l o o' h1 h2) (fun _ => rfl)
    (fun pre W => (∀ y ∈ pre, hitP size step y = false) ∧ Row W (w.heap.size) #[.int .i64 size] ∧ Row W (w.heap.size + 1) #[.int .i64 step] ∧ Row W (w.heap.size + 1 + 1) #[.int .i64 0] ∧ Row W (w.heap.size + 1 + 1 + 1) #[.int .i64 0] ∧ Below w.heap.size w W)
    (fun cd pre W => cd = .ret ∧ ∃ p x, pre = p ++ [x] ∧ (∀ y ∈ p, hitP size step y = false) ∧ hitP size step x = true ∧ Row W (w.heap.size + 1 + 1) #[.int .i64 (plcAt x.1 step)] ∧ Row W (w.heap.size + 1 + 1 + 1) #[.int .i64 0] ∧ Below w.heap.size w W)
    ((OwnP.const _ _ (fun pre : List (Int × Int) => ∀ y ∈ pre, hitP size step y = false)).and ((OwnP.row _ (by omega) (fun _ : List (Int × Int) => #[.int .i64 size])).and ((OwnP.row _ (by omega) (fun _ : List (Int × Int) => #[.int .i64 step])).and ((OwnP.row _ (by omega) (fun _ : List (Int × Int) => #[.int .i64 0])).and ((OwnP.row _ (by omega) (fun _ : List (Int × Int) => #[.int .i64 0])).and (OwnP.below _ (by omega) (by omega)))))))
    (fun cd => by
      rintro pre W W' row ⟨h0, p, x, h1, h2, h3, h5, h6, h7⟩ hgr hrow
      exact ⟨h0, p, x, h1, h2, h3, OwnP.row _ (by omega) (fun _ : Unit => #[.int .i64 (plcAt x.1 step)]) () W W' row h5 hgr hrow, OwnP.row _ (by omega) (fun _ : Unit => #[.int .i64 0]) () W W' row h6 hgr hrow, OwnP.below (β := Unit) _ (by omega) (by omega) () W W' row h7 hgr hrow⟩)
    ⟨by simp, y1, y2, y3, y4, hb2⟩ ?round ?done ?stop
  case round =>
    rintro l' pre x post W hx hl_ hlt ⟨hpre, c1, c2, c3, c4, hBW⟩
    obtain ⟨x0, x1, x2⟩ := fr_bd hD x (by rw [hx]; simp)
    obtain ⟨p0, p1⟩ := plcAt_bd x0 (show 1 ≤ step by omega)
    clear hx y1 y2 y3 y4 y5 y6 y7
    gi_wp2
    refine ⟨KeepsFrom.refl _ _, KeepC.refl _ _, ⟨hpre, c1, c2, c3, c4, hBW⟩, ?_⟩
    clear c1 c2 c3 c4 hBW
    rintro U hg ⟨-, ⟨d1, d1'⟩, ⟨d2, d2'⟩, ⟨d3, d3'⟩, ⟨d4, d4'⟩, hBU⟩
    have v1 : IntKind.i64.wrap (x.1 + step) = x.1 + step := IntWalk.i64_in _ (by omega)
    have v2 : IntKind.i64.wrap (x.1 + step - 1) = x.1 + step - 1 := IntWalk.i64_in _ (by omega)
    have v3 : IntKind.i64.wrap ((x.1 + step - 1).tdiv step) = (x.1 + step - 1) / step := IntWalk.i64_quo _ _ (by omega)
    have v4 : IntKind.i64.wrap ((x.1 + step - 1) / step * step) = plcAt x.1 step := IntWalk.i64_in _ (by unfold plcAt at p0 p1; omega)
    have v5 : IntKind.i64.wrap (plcAt x.1 step - x.1) = plcAt x.1 step - x.1 := IntWalk.i64_in _ (by omega)
    have v6 : IntKind.i64.wrap (x.2 - size) = x.2 - size := IntWalk.i64_in _ (by omega)
    have v7 : ¬ step = 0 := by omega
    have v8 : (step == 0) = false := by simpa using v7
    have hX : AsideP (fun _ => False) U U := .of_below (Below.refl _ _)
    have hin1 : In3 (w.heap.size + 1 + 1) (w.heap.size + 1 + 1 + 1) (w.heap.size + 1 + 1 + 1) (w.heap.size + 1 + 1) := in3a
    have hin2 : In3 (w.heap.size + 1 + 1) (w.heap.size + 1 + 1 + 1) (w.heap.size + 1 + 1 + 1) (w.heap.size + 1 + 1 + 1) := in3b
    gi_wp2_with fail
    refine wpIn_named (fun W_ => (isRow W_ (w.heap.size) ∧ rowAt W_ (w.heap.size) = #[.int .i64 size]) ∧ (isRow W_ (w.heap.size + 1) ∧ rowAt W_ (w.heap.size + 1) = #[.int .i64 step]) ∧ (isRow W_ (w.heap.size + 1 + 1) ∧ rowAt W_ (w.heap.size + 1 + 1) = #[.int .i64 0]) ∧ (isRow W_ (w.heap.size + 1 + 1 + 1) ∧ rowAt W_ (w.heap.size + 1 + 1 + 1) = #[.int .i64 0]) ∧ AsideP (fun _ => False) U W_) (by refine ⟨⟨by go_simp, by go_simp⟩, ⟨by go_simp, by go_simp⟩, ⟨by go_simp, by go_simp⟩, ⟨by go_simp, by go_simp⟩, by go_simp⟩) ?_
    rintro v1 ⟨⟨S_1, S_1'⟩, ⟨T_1, T_1'⟩, ⟨O_1, O_1'⟩, ⟨E_1, E_1'⟩, hB_1⟩
    clear d1 d1' d2 d2' d3 d3' d4 d4' hX
    have hz_1 : U.heap.size ≤ v1.heap.size := hB_1.size
    have hl_S_1 := isRow.lt S_1
    have ne_S_1_0 : ¬ (w.heap.size) = v1.heap.size := by omega
    have en_S_1_0 : ¬ v1.heap.size = (w.heap.size) := by omega
    have hl_T_1 := isRow.lt T_1
    have ne_T_1_0 : ¬ (w.heap.size + 1) = v1.heap.size := by omega
    have en_T_1_0 : ¬ v1.heap.size = (w.heap.size + 1) := by omega
    have hl_O_1 := isRow.lt O_1
    have ne_O_1_0 : ¬ (w.heap.size + 1 + 1) = v1.heap.size := by omega
    have en_O_1_0 : ¬ v1.heap.size = (w.heap.size + 1 + 1) := by omega
    have hl_E_1 := isRow.lt E_1
    have ne_E_1_0 : ¬ (w.heap.size + 1 + 1 + 1) = v1.heap.size := by omega
    have en_E_1_0 : ¬ v1.heap.size = (w.heap.size + 1 + 1 + 1) := by omega
    refine wpIn_region_held (S := fun w' => (isRow w' (w.heap.size) ∧ rowAt w' (w.heap.size) = #[.int .i64 size]) ∧ (isRow w' (w.heap.size + 1) ∧ rowAt w' (w.heap.size + 1) = #[.int .i64 step]) ∧ (isRow w' (w.heap.size + 1 + 1) ∧ rowAt w' (w.heap.size + 1 + 1) = #[.int .i64 0]) ∧ (isRow w' (w.heap.size + 1 + 1 + 1) ∧ rowAt w' (w.heap.size + 1 + 1 + 1) = #[.int .i64 0]) ∧ AsideP (fun _ => False) U w') (by kernel_rfl) (by kernel_rfl) (by rintro ⟨_, _, h_⟩; exact h_) ⟨⟨by go_simp, by go_simp⟩, ⟨by go_simp, by go_simp⟩, ⟨by go_simp, by go_simp⟩, ⟨by go_simp, by go_simp⟩, by go_simp⟩ (fun hHeld => ?_)
    refine wpAnyH_take (i := 0) (oi := ⟨some 40, .move (.tmp 10), 3, "bus.go:87", #[], none⟩) (v := ?_) rfl (by kernel_rfl) (by kernel_rfl) (by kernel_rfl) (fun _ _ _ h => h) (Or.inl ⟨by rfl, ?_⟩) (by assumption) ?_
    rotate_left
    · (intro w_ hS_; (try dsimp only at hS_); go_simp; try with_reducible rfl)
    try simp only [Act.put, List.setIfInBounds_toArray, List.set_cons_zero, List.set_cons_succ]
    refine wpAnyH_take (i := 1) (oi := ⟨some 41, .load 3 (.tmp 6), 3, "bus.go:87", #[], none⟩) (v := ?_) rfl (by kernel_rfl) (by kernel_rfl) (by kernel_rfl) (fun _ _ _ h => h) (Or.inl ⟨by rfl, ?_⟩) (by assumption) ?_
    rotate_left
    · (intro w_ hS_; (try dsimp only at hS_); go_simp; try with_reducible rfl)
    try simp only [Act.put, List.setIfInBounds_toArray, List.set_cons_zero, List.set_cons_succ]
    refine wpAnyH_take (i := 2) (oi := ⟨some 42, .binOp .add 3 (.tmp 40) (.tmp 41) 3, 3, "bus.go:87", #[⟨0, .data⟩, ⟨1, .data⟩], none⟩) (v := ?_) rfl (by kernel_rfl) (by kernel_rfl) (by kernel_rfl) (fun _ _ _ h => h) (Or.inl ⟨by rfl, ?_⟩) (by assumption) ?_
    rotate_left
    · (intro w_ hS_; (try dsimp only at hS_); go_simp; try with_reducible rfl)
    try simp only [Act.put, List.setIfInBounds_toArray, List.set_cons_zero, List.set_cons_succ]
    refine wpAnyH_take (i := 3) (oi := ⟨some 43, .binOp .sub 3 (.tmp 42) (.const (.int .i64 1)) 3, 3, "bus.go:87", #[⟨2, .data⟩], none⟩) (v := ?_) rfl (by kernel_rfl) (by kernel_rfl) (by kernel_rfl) (fun _ _ _ h => h) (Or.inl ⟨by rfl, ?_⟩) (by assumption) ?_
    rotate_left
    · (intro w_ hS_; (try dsimp only at hS_); go_simp; try with_reducible rfl)
    try simp only [Act.put, List.setIfInBounds_toArray, List.set_cons_zero, List.set_cons_succ]
    refine wpAnyH_take (i := 4) (oi := ⟨some 44, .load 3 (.tmp 6), 3, "bus.go:87", #[], none⟩) (v := ?_) rfl (by kernel_rfl) (by kernel_rfl) (by kernel_rfl) (fun _ _ _ h => h) (Or.inl ⟨by rfl, ?_⟩) (by assumption) ?_
    rotate_left
    · (intro w_ hS_; (try dsimp only at hS_); go_simp; try with_reducible rfl)
    try simp only [Act.put, List.setIfInBounds_toArray, List.set_cons_zero, List.set_cons_succ]
    refine wpAnyH_take (i := 5) (oi := ⟨some 45, .binOp .quo 3 (.tmp 43) (.tmp 44) 3, 3, "bus.go:87", #[⟨3, .data⟩, ⟨4, .data⟩], none⟩) (v := ?_) rfl (by kernel_rfl) (by kernel_rfl) (by kernel_rfl) (fun _ _ _ h => h) (Or.inl ⟨by rfl, ?_⟩) (by assumption) ?_
    rotate_left
    · (intro w_ hS_; (try dsimp only at hS_); go_simp; try with_reducible rfl)
    try simp only [Act.put, List.setIfInBounds_toArray, List.set_cons_zero, List.set_cons_succ]
    refine wpAnyH_take (i := 6) (oi := ⟨some 46, .load 3 (.tmp 6), 3, "bus.go:87", #[], none⟩) (v := ?_) rfl (by kernel_rfl) (by kernel_rfl) (by kernel_rfl) (fun _ _ _ h => h) (Or.inl ⟨by rfl, ?_⟩) (by assumption) ?_
    rotate_left
    · (intro w_ hS_; (try dsimp only at hS_); go_simp; try with_reducible rfl)
    try simp only [Act.put, List.setIfInBounds_toArray, List.set_cons_zero, List.set_cons_succ]
    refine wpAnyH_take (i := 7) (oi := ⟨some 47, .binOp .mul 3 (.tmp 45) (.tmp 46) 3, 3, "bus.go:87", #[⟨5, .data⟩, ⟨6, .data⟩], none⟩) (v := ?_) rfl (by kernel_rfl) (by kernel_rfl) (by kernel_rfl) (fun _ _ _ h => h) (Or.inl ⟨by rfl, ?_⟩) (by assumption) ?_
    rotate_left
    · (intro w_ hS_; (try dsimp only at hS_); go_simp; try with_reducible rfl)
    try simp only [Act.put, List.setIfInBounds_toArray, List.set_cons_zero, List.set_cons_succ]
    refine wpAnyH_take (i := 8) (oi := ⟨some 12, .assign (.tmp 47), 3, "bus.go:87", #[⟨7, .data⟩, ⟨0, .phase⟩, ⟨1, .phase⟩, ⟨2, .phase⟩, ⟨3, .phase⟩, ⟨4, .phase⟩, ⟨5, .phase⟩, ⟨6, .phase⟩, ⟨7, .phase⟩], none⟩) (v := ?_) rfl (by kernel_rfl) (by kernel_rfl) (by kernel_rfl) (fun _ _ _ h => h) (Or.inl ⟨by rfl, ?_⟩) (by assumption) ?_
    rotate_left
    · (intro w_ hS_; (try dsimp only at hS_); go_simp; try with_reducible rfl)
    try simp only [Act.put, List.setIfInBounds_toArray, List.set_cons_zero, List.set_cons_succ]
    refine wpAnyH_done (by kernel_rfl) ?_ _
    (try dsimp only at hHeld)
    go_split_ands
    cases hh : hitP size step x with
    | true =>
      have hh1 : decide (plcAt x.1 step - x.1 ≤ x.2 - size) = true := hh
      have HH := Lib.hid (And.intro hpre hh)
      clear hh hpre
      have hA1 : AsideP (fun _ => False) U v1.drew := by assumption
      have hA3 : AsideP (In3 (w.heap.size + 1 + 1) (w.heap.size + 1 + 1 + 1) (w.heap.size + 1 + 1 + 1)) U v1.drew := ⟨hA1.os, hA1.tape, hA1.output, hA1.size, fun k hk _ => hA1.block k hk (fun h => h)⟩
      have hA4 : AsideP (In3 (w.heap.size + 1 + 1) (w.heap.size + 1 + 1 + 1) (w.heap.size + 1 + 1 + 1)) U v1 := ⟨hA3.os, hA3.tape, hA3.output, hA3.size, hA3.block⟩
      clear hA1
      gi_wp2
      have hA2 : AsideP (In3 (w.heap.size + 1 + 1) (w.heap.size + 1 + 1 + 1) (w.heap.size + 1 + 1 + 1)) U ((v1.drew.setCell ⟨w.heap.size + 1 + 1, 0, none⟩ (.int .i64 (plcAt x.1 step))).setCell ⟨w.heap.size + 1 + 1 + 1, 0, none⟩ (.int .i64 0)) := by go_simp
      exact ⟨KeepsFrom.aside (P := In3 (w.heap.size + 1 + 1) (w.heap.size + 1 + 1 + 1) (w.heap.size + 1 + 1 + 1)) hA2 (fun k hk => by unfold In3 at hk; omega), rfl, pre, x, rfl, HH.out.1, HH.out.2, ⟨by go_simp, by go_simp⟩, ⟨by go_simp, by go_simp⟩, AsideP.below (P := In3 (w.heap.size + 1 + 1) (w.heap.size + 1 + 1 + 1) (w.heap.size + 1 + 1 + 1)) hA2 hBU (fun k hk => by unfold In3 at hk; omega) hBU.size⟩
    | false =>
      have hh1 : decide (plcAt x.1 step - x.1 ≤ x.2 - size) = false := hh
      have HH := Lib.hid (And.intro hpre hh)
      clear hh hpre
      have hA1 : AsideP (fun _ => False) U v1.drew := by assumption
      gi_wp2
      refine ⟨KeepsFrom.aside (P := fun _ => False) hA1 (fun k hk => hk.elim), KeepC.aside (P := fun _ => False) hA1, fun y hy => ?_, ⟨by assumption, by assumption⟩, ⟨by assumption, by assumption⟩, ⟨by assumption, by assumption⟩, ⟨by assumption, by assumption⟩, AsideP.below (P := fun _ => False) hA1 hBU (fun k hk => hk.elim) hBU.size⟩
      rcases List.mem_append.1 hy with h | h
      · exact HH.out.1 y h
      · rw [List.mem_singleton] at h
        rw [h]
        exact HH.out.2
  case done =>
    rintro D W hD2 ⟨hpre, ⟨c1, c1'⟩, ⟨c2, c2'⟩, ⟨c3, c3'⟩, ⟨c4, c4'⟩, hBW⟩ hK
    have hfn : (fr e d).find? (hitP size step) = none := List.find?_eq_none.2 (by intro y hy; rw [hpre y hy]; decide)
    have HN := Lib.hid hfn
    clear hfn hpre y1 y2 y3 y4 y5 y6 y7
    have e3 : ¬ D = w.heap.size + 1 + 1 := by omega
    have e4 : ¬ D = w.heap.size + 1 + 1 + 1 := by omega
    gi_wp2
    have f2 : Row ((W.setCell ⟨w.heap.size + 1 + 1, 0, none⟩ (.int .i64 0)).setCell ⟨w.heap.size + 1 + 1 + 1, 0, none⟩ (.int .i64 2)) (w.heap.size + 1 + 1) #[.int .i64 0] := ⟨by go_simp, by go_simp⟩
    have f3 : Row ((W.setCell ⟨w.heap.size + 1 + 1, 0, none⟩ (.int .i64 0)).setCell ⟨w.heap.size + 1 + 1 + 1, 0, none⟩ (.int .i64 2)) (w.heap.size + 1 + 1 + 1) #[.int .i64 2] := ⟨by go_simp, by go_simp⟩
    have fK : ((W.setCell ⟨w.heap.size + 1 + 1, 0, none⟩ (.int .i64 0)).setCell ⟨w.heap.size + 1 + 1 + 1, 0, none⟩ (.int .i64 2)).heap[D]? = some (.deferred (some [])) := by go_simp
    have fB : Below w.heap.size w ((W.setCell ⟨w.heap.size + 1 + 1, 0, none⟩ (.int .i64 0)).setCell ⟨w.heap.size + 1 + 1 + 1, 0, none⟩ (.int .i64 2)) := (hBW.setCell (p := ⟨_, 0, none⟩) (by simp; omega) _).setCell (p := ⟨_, 0, none⟩) (by simp; omega) _
    exact leave_mark fK (v := .tuple #[.int .i64 0, .int .i64 2]) (results_cc2 rfl _ rfl rfl (f2.same (World.putObj_heap_other (fun e => e3 e.symm))) (f3.same (World.putObj_heap_other (fun e => e4 e.symm)))) ⟨by rw [HF.out, HN.out], below_putD fB (by omega) _⟩
  case stop =>
    rintro D cd pre x post W hx hD2 ⟨rfl, p, x', hp, h1, h2, f2, f3, hBW⟩ hK
    obtain ⟨rfl, rfl⟩ : pre = p ∧ x = x' := by simpa using hp
    have hfn : (fr e d).find? (hitP size step) = some x := by rw [hx]; exact find_hit h1 h2
    have HN := Lib.hid hfn
    clear hfn h1 h2 hx hp y1 y2 y3 y4 y5 y6 y7
    have e3 : ¬ D = w.heap.size + 1 + 1 := by omega
    have e4 : ¬ D = w.heap.size + 1 + 1 + 1 := by omega
    gi_wp2
    exact leave_mark hK (v := .tuple #[.int .i64 (plcAt x.1 step), .int .i64 0]) (results_cc2 rfl _ rfl rfl (f2.same (World.putObj_heap_other (fun e => e3 e.symm))) (f3.same (World.putObj_heap_other (fun e => e4 e.symm)))) ⟨by rw [HF.out, HN.out], below_putD hBW (by omega) _⟩
end Go.Proofs.Ytjkbocejdjnfiaa.Bs
