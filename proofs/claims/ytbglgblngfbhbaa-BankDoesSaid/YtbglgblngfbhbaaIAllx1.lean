-- Written by the program wip/gen/inj.py of this repository, out of the translation, for this claim. Not trusted: Lean checks it.
import Derived.Test.YtbglgblngfbhbaaIAllx0
namespace Go.Proofs.Ytbglgblngfbhbaa.IAll
open Go.RowKit Go.Proofs.YtbglgblngfbhbaaW.PrintWords Go.Proofs.YtbglgblngfbhbaaW.PrintLast Go.Proofs.YtbglgblngfbhbaaW.PrintMore
attribute [local go_sem] max2_int min2_int max_two min_two max_three min_three max_four min_four   -- for this text's walks alone
set_option linter.unusedVariables false
set_option linter.unusedSimpArgs false

-- NOT PRINTED: function 10 (bank_New_string)

/-- A state of type 74 at block g of W; what its slices lead to came in by w0. -/
def IsS74 (w0 W : World) (g : Nat) (f0 : Int) (f1 : List (S35)) : Prop := ∃ A1 c1, W.heap[g]? = some (.cells #[.int .i64 f0, .slice A1 f1.length c1] 74 (0, 0)) ∧ w0.heap.size ≤ g ∧ Kd.C k35 w0 A1 f1.length f1
theorem IsS74.grown {w0 W : World} {g : Nat} {f0 : Int} {f1 : List (S35)} {W1 : World} {row : Option Nat} (h : IsS74 w0 W g f0 f1) (hw : W.grownBy W1 row) (hne : some g ≠ row) : IsS74 w0 W1 g f0 f1 := by
  obtain ⟨A1, c1, hb, hg, hr1⟩ := h
  exact ⟨A1, c1, blk_grown hb hw hne, hg, hr1⟩
theorem IsS74.own_neN {w0 W : World} {g : Nat} {f0 : Int} {f1 : List (S35)} {α : Type} {d : Kd α} {e : Nat} {base : Nat} {ok : Nat → Prop} {v : Value} {xs : List α} (h : IsS74 w0 W g f0 f1) (ho : Kd.N d e W base ok v xs) (ht : e ≠ 74) : some g ≠ v.ownBlock := by
  obtain ⟨A1, c1, hb, hg, hr1⟩ := h
  exact Kd.N_ne ho hb ht
theorem IsS74.fresh {w0 W : World} {g : Nat} {f0 : Int} {f1 : List (S35)} (h : IsS74 w0 W g f0 f1) : ∀ k, W.heap.size ≤ k → k ≠ g := by
  obtain ⟨A1, c1, hb, hg, hr1⟩ := h
  exact Kd.freshB hb
theorem IsS74.kept {w0 W : World} {g : Nat} {f0 : Int} {f1 : List (S35)} {W1 : World} {S : Nat → Prop} (h : IsS74 w0 W g f0 f1) (hk : Kept W W1 S) (hne : ¬ S g) : IsS74 w0 W1 g f0 f1 := by
  obtain ⟨A1, c1, hb, hg, hr1⟩ := h
  exact ⟨A1, c1, blk_kept hb hk hne, hg, hr1⟩
theorem IsS74.below {w0 W : World} {g : Nat} {f0 : Int} {f1 : List (S35)} {W1 : World} (h : IsS74 w0 W g f0 f1) (hw : Below W.heap.size W W1) : IsS74 w0 W1 g f0 f1 := h.grown (grown_of_below hw none) (by simp)
theorem IsS74.alloc {w0 W : World} {g : Nat} {f0 : Int} {f1 : List (S35)} (h : IsS74 w0 W g f0 f1) (o : Obj) : IsS74 w0 (W.alloc o) g f0 f1 := h.below (below_alloc (Below.refl _ _) o)
theorem IsS74.drewN {w0 W : World} {g : Nat} {f0 : Int} {f1 : List (S35)} (h : IsS74 w0 W g f0 f1) (m : Nat) : IsS74 w0 (W.drewN m) g f0 f1 := h
theorem IsS74.drew {w0 W : World} {g : Nat} {f0 : Int} {f1 : List (S35)} (h : IsS74 w0 W g f0 f1) : IsS74 w0 W.drew g f0 f1 := h
theorem IsS74.at_ {w0 W : World} {g : Nat} {f0 : Int} {f1 : List (S35)} {w' : World} {m : Nat} (hq : W.drewN m = w') (h : IsS74 w0 W g f0 f1) : IsS74 w0 w' g f0 f1 := by subst hq; exact IsS74.drewN h m
theorem IsS74.apart {w0 W : World} {g : Nat} {f0 : Int} {f1 : List (S35)} {α : Type} {d : Kd α} {e : Nat} {base : Nat} {ok : Nat → Prop} {v : Value} {xs : List α} (h : IsS74 w0 W g f0 f1) (ho : d.R e W base ok v xs) (ht : ∀ q, q ∈ e :: d.E → q ≠ 74) : d.R e W base (fun k => ok k ∧ k ≠ g) v xs := by
  obtain ⟨A1, c1, hb, hg, hr1⟩ := h
  exact Kd.R_types ho hb ht
theorem IsS74.own_ne {w0 W : World} {g : Nat} {f0 : Int} {f1 : List (S35)} {α : Type} {d : Kd α} {e : Nat} {base : Nat} {ok : Nat → Prop} {v : Value} {xs : List α} (h : IsS74 w0 W g f0 f1) (ho : d.R e W base ok v xs) (ht : e ≠ 74) : some g ≠ v.ownBlock := by
  obtain ⟨A1, c1, hb, hg, hr1⟩ := h
  exact Kd.R_ne ho hb ht
theorem IsS74.apartQ {w0 W : World} {g : Nat} {f0 : Int} {f1 : List (S35)} {α : Type} {d : Kd α} {e : Nat} {base : Nat} {ok : Nat → Prop} {v : Value} {xs : List α} (h : IsS74 w0 W g f0 f1) (ho : d.Q e W base ok v xs) (ht : ∀ q, q ∈ e :: d.E → q ≠ 74) : d.Q e W base (fun k => ok k ∧ k ≠ g) v xs := by
  obtain ⟨A1, c1, hb, hg, hr1⟩ := h
  exact Kd.Q_types ho hb ht
theorem IsS74.own_neQ {w0 W : World} {g : Nat} {f0 : Int} {f1 : List (S35)} {α : Type} {d : Kd α} {e : Nat} {base : Nat} {ok : Nat → Prop} {v : Value} {xs : List α} (h : IsS74 w0 W g f0 f1) (ho : d.Q e W base ok v xs) (ht : e ≠ 74) : some g ≠ v.ownBlock := by
  obtain ⟨A1, c1, hb, hg, hr1⟩ := h
  exact Kd.Q_ne ho hb ht
theorem IsS74.apartS {w0 W : World} {g : Nat} {f0 : Int} {f1 : List (S35)} {α : Type} {d : Kd α} {e : Nat} {base : Nat} {ok : Nat → Prop} {v : Value} {xs : List α} (h : IsS74 w0 W g f0 f1) (ho : d.S e W base ok v xs) (ht : ∀ q, q ∈ e :: d.E → q ≠ 74) : d.S e W base (fun k => ok k ∧ k ≠ g) v xs := by
  obtain ⟨A1, c1, hb, hg, hr1⟩ := h
  exact Kd.S_types ho hb ht
theorem IsS74.own_neS {w0 W : World} {g : Nat} {f0 : Int} {f1 : List (S35)} {α : Type} {d : Kd α} {e : Nat} {base : Nat} {ok : Nat → Prop} {v : Value} {xs : List α} (h : IsS74 w0 W g f0 f1) (ho : d.S e W base ok v xs) (ht : e ≠ 74) : some g ≠ v.ownBlock := by
  obtain ⟨A1, c1, hb, hg, hr1⟩ := h
  exact Kd.S_ne ho hb ht
theorem IsS74.lt {w0 W : World} {g : Nat} {f0 : Int} {f1 : List (S35)} (h : IsS74 w0 W g f0 f1) : g < W.heap.size := by
  obtain ⟨A1, c1, hb, hg, hr1⟩ := h
  exact blk_lt hb
theorem IsS74.ge {w0 W : World} {g : Nat} {f0 : Int} {f1 : List (S35)} (h : IsS74 w0 W g f0 f1) : w0.heap.size ≤ g := by
  obtain ⟨A1, c1, hb, hg, hr1⟩ := h
  exact hg
theorem IsS74.ne_blk {w0 W : World} {g : Nat} {f0 : Int} {f1 : List (S35)} {a : Nat} {cs : Array Value} {t : TypeId} {fr : Nat × Nat} (h : IsS74 w0 W g f0 f1) (hb2 : W.heap[a]? = some (.cells cs t fr)) (ht : t ≠ 74) : g ≠ a := by
  obtain ⟨A1, c1, hb, hg, hr1⟩ := h
  rintro rfl
  rw [hb] at hb2
  injection hb2 with hb2
  injection hb2 with _ ht2
  exact ht ht2.symm
theorem IsS74.far {w0 W : World} {g : Nat} {f0 : Int} {f1 : List (S35)} {p : Addr} (h : IsS74 w0 W g f0 f1) (hne : g ≠ p.block) (u : Value) : IsS74 w0 (W.setCell p u) g f0 f1 := by
  obtain ⟨A1, c1, hb, hg, hr1⟩ := h
  exact ⟨A1, c1, blk_far hb hne u, hg, hr1⟩
theorem cellS74_0 {W : World} {g : Nat} {A1 : Option Addr} {c1 : Nat} {f0 : Int} {f1 : List (S35)} (h : W.heap[g]? = some (.cells #[.int .i64 f0, .slice A1 f1.length c1] 74 (0, 0))) : W.cell? ⟨g, 0, none⟩ = some (.int .i64 f0) := (blk_cell h 0).trans rfl
theorem IsS74.set_0 {w0 W : World} {g : Nat} {f0 : Int} {f1 : List (S35)} (h : IsS74 w0 W g f0 f1) (x : Int) : IsS74 w0 (W.setCell ⟨g, 0, none⟩ (.int .i64 x)) g x f1 := by
  obtain ⟨A1, c1, hb, hg, hr1⟩ := h
  exact ⟨A1, c1, by simpa using blk_set hb 0 (.int .i64 x), hg, hr1⟩
theorem cellS74_1 {W : World} {g : Nat} {A1 : Option Addr} {c1 : Nat} {f0 : Int} {f1 : List (S35)} (h : W.heap[g]? = some (.cells #[.int .i64 f0, .slice A1 f1.length c1] 74 (0, 0))) : W.cell? ⟨g, 1, none⟩ = some (.slice A1 f1.length c1) := (blk_cell h 1).trans rfl
theorem IsS74.new (w0 W : World) (A1 : Option Addr) (c1 : Nat) (f0 : Int) (f1 : List (S35)) (hB : Below w0.heap.size w0 W) (hr1 : Kd.C k35 w0 A1 f1.length f1) : IsS74 w0 (W.alloc (.cells #[.int .i64 f0, .slice A1 f1.length c1] 74)) W.heap.size f0 f1 := ⟨A1, c1, by simpa using heap_alloc_new W _, hB.size, hr1⟩

/-! ### bank_Bank_string_Has: function 14 -/
def bank_Bank_string_Has.f (s0_0 : Int) (s0_1 : List (S35)) (a1 : Int) : Option (Bool × Int) := if a1 ≥ s0_0 then (some (decide ((wrap64 (a1 - s0_0)) < (s0_1.length : Int)), s0_0)) else (some (false, s0_0))
set_option maxHeartbeats 8000000 in
set_option maxRecDepth 100000 in
theorem bank_Bank_string_Has.calls (g : Nat) (s0_0 : Int) (s0_1 : List (S35)) (a1 : Int) (r1 : Bool) (r2 : Int) (w0 w : World) (hI : IsS74 w0 w g s0_0 s0_1) (hB : Below w0.heap.size w0 w) (h : bank_Bank_string_Has.f s0_0 s0_1 a1 = some (r1, r2)) :
    Calls Try.prog 14 #[.pointer (some ⟨g, 0, none⟩), .int .i64 a1] w fun e w' => e = .returned (.bool r1) ∧ IsS74 w0 w' g r2 s0_1 ∧ Below w0.heap.size w0 w' ∧ KeepBut w w' g none := by
  have HI0 := Aside0.mk hI
  have HK := Aside0.mk (KeepBut.refl w g none)
  have HL := Aside0.mk hB.size
  clear hI
  have HW0 := Aside0.mk hB.size
  have HB := Aside0.mk hB
  clear hB
  have H : (if a1 ≥ s0_0 then (some (decide ((wrap64 (a1 - s0_0)) < (s0_1.length : Int)), s0_0)) else (some (false, s0_0))) = some (r1, r2) := h
  clear h
  by_cases c3 : a1 ≥ s0_0
  · rw [if_pos c3] at H
    have c3b0 : decide (s0_0 ≤ a1) = true := decide_eq_true c3
    clear c3
    simp only [Option.some.injEq, Prod.mk.injEq] at H
    obtain ⟨rfl, rfl⟩ := H
    obtain ⟨ASz4_1, cSz4_1, HGz4, hgz4, HSz4_1⟩ := HI0.out
    have hcz4_0 := cellS74_0 HGz4
    have hcz4_1 := cellS74_1 HGz4
    have hfz4_0 := blk_frozen HGz4 0
    clear HGz4 hgz4
    go_enter Try.func14, Try.ntmps14
    go_wp2
    repeat (go_quiet (fail); try go_wp2)
    go_ret
    exact ⟨by first | rfl | (simp [errW_none, errW_some] <;> rfl) | (simp [*, errW_none, errW_some] <;> rfl), by repeat (first | (with_reducible first | exact HI0.out | apply IsS74.alloc | apply IsS74.drewN | apply IsS74.drew | apply IsS74.set_0) | exact HI0.out), by repeat (first | (with_reducible first | exact HB.out | apply below_alloc | apply pw_below_drewN | apply below_drew1 | refine below_set ?_ (IsS74.ge HI0.out)) | exact HB.out), by repeat (first | (with_reducible first | exact HK.out | apply KeepBut.set_ | apply keep_drewN | apply keep_drew | apply keep_alloc) | exact HK.out)⟩
  · rw [if_neg c3] at H
    have c3b0 : decide (s0_0 ≤ a1) = false := decide_eq_false c3
    clear c3
    simp only [Option.some.injEq, Prod.mk.injEq] at H
    obtain ⟨rfl, rfl⟩ := H
    obtain ⟨ASz5_1, cSz5_1, HGz5, hgz5, HSz5_1⟩ := HI0.out
    have hcz5_0 := cellS74_0 HGz5
    have hcz5_1 := cellS74_1 HGz5
    have hfz5_0 := blk_frozen HGz5 0
    clear HGz5 hgz5
    go_enter Try.func14, Try.ntmps14
    go_wp2
    repeat (go_quiet (fail); try go_wp2)
    go_ret
    exact ⟨by first | rfl | (simp [errW_none, errW_some] <;> rfl) | (simp [*, errW_none, errW_some] <;> rfl), by repeat (first | (with_reducible first | exact HI0.out | apply IsS74.alloc | apply IsS74.drewN | apply IsS74.drew | apply IsS74.set_0) | exact HI0.out), by repeat (first | (with_reducible first | exact HB.out | apply below_alloc | apply pw_below_drewN | apply below_drew1 | refine below_set ?_ (IsS74.ge HI0.out)) | exact HB.out), by repeat (first | (with_reducible first | exact HK.out | apply KeepBut.set_ | apply keep_drewN | apply keep_drew | apply keep_alloc) | exact HK.out)⟩

-- NOT PRINTED: function 12 (bank_Bank_string_Get)

/-! ### prio_Real: function 35 -/
def prio_Real.f (a0 : Int) : Option (Int) := some (Go.bits .and .i64 a0 248)
set_option maxHeartbeats 8000000 in
set_option maxRecDepth 100000 in
theorem prio_Real.calls (a0 : Int) (r : Int) (w : World) (h : prio_Real.f a0 = some r) :
    Calls Try.prog 35 #[.int .i64 a0] w fun e w' => e = .returned (.int .i64 r) ∧ Drawn0 w w' := by
  have H : (some (Go.bits .and .i64 a0 248)) = some r := h
  clear h
  obtain rfl := Option.some.inj H
  go_enter Try.func35, Try.ntmps35
  go_wp2
  go_ret
  exact ⟨by first | rfl | (simp; done) | (simp [*]; done), by repeat (first | exact Drawn0.refl _ | apply Drawn0.step)⟩

-- NOT PRINTED: function 18 (bank_Bank_string_Put)

-- NOT PRINTED: function 43 (bank_Entry_string)

-- NOT PRINTED: function 26 (bank_Bank_string_All)

-- NOT PRINTED: function 20 (bank_Bank_string_Ready)

/-! ### prio_Before: function 45 -/
def prio_Before.f (a0 : Int) (a1 : Int) (a2 : Int) (a3 : Int) : Option (Bool) := if a0 < a2 then (some true) else (if a0 = a2 then (some (decide (a1 < a3))) else (some false))
set_option maxHeartbeats 8000000 in
set_option maxRecDepth 100000 in
theorem prio_Before.calls (a0 : Int) (a1 : Int) (a2 : Int) (a3 : Int) (r : Bool) (w : World) (h : prio_Before.f a0 a1 a2 a3 = some r) :
    Calls Try.prog 45 #[.int .i64 a0, .int .i64 a1, .int .i64 a2, .int .i64 a3] w fun e w' => e = .returned (.bool r) ∧ Drawn0 w w' := by
  have H : (if a0 < a2 then (some true) else (if a0 = a2 then (some (decide (a1 < a3))) else (some false))) = some r := h
  clear h
  by_cases c5 : a0 < a2
  · rw [if_pos c5] at H
    have c5b0 : decide (a0 < a2) = true := decide_eq_true c5
    clear c5
    obtain rfl := Option.some.inj H
    go_enter Try.func45, Try.ntmps45
    go_wp2
    go_ret
    exact ⟨by first | rfl | (simp; done) | (simp [*]; done), by repeat (first | exact Drawn0.refl _ | apply Drawn0.step)⟩
  · rw [if_neg c5] at H
    have c5b0 : decide (a0 < a2) = false := decide_eq_false c5
    clear c5
    by_cases c6 : a0 = a2
    · rw [if_pos c6] at H
      have c6b0 : (a0 == a2) = true := beq_iff_eq.mpr c6
      have c6b1 : (a0 != a2) = false := bne_eq_false_iff_eq.mpr c6
      clear c6
      obtain rfl := Option.some.inj H
      go_enter Try.func45, Try.ntmps45
      go_wp2
      go_ret
      exact ⟨by first | rfl | (simp; done) | (simp [*]; done), by repeat (first | exact Drawn0.refl _ | apply Drawn0.step)⟩
    · rw [if_neg c6] at H
      have c6b0 : (a0 == a2) = false := beq_eq_false_iff_ne.mpr c6
      have c6b1 : (a0 != a2) = true := bne_iff_ne.mpr c6
      obtain rfl := Option.some.inj H
      go_enter Try.func45, Try.ntmps45
      go_wp2
      go_ret
      exact ⟨by first | rfl | (simp; done) | (simp [*]; done), by repeat (first | exact Drawn0.refl _ | apply Drawn0.step)⟩

-- NOT PRINTED: function 27 (bank_Best_string)

-- NOT PRINTED: function 9 (crierlaw09_awake)

-- NOT PRINTED: function 11 (crierref09_New)

-- NOT PRINTED: function 13 (crierlaw09_alike)

end Go.Proofs.Ytbglgblngfbhbaa.IAll
