-- Written by the program wip/gen/inj.py of this repository, out of the translation, for this claim. Not trusted: Lean checks it.
import Derived.Test.YtpjenhojldcmiaaIAllx0
import Derived.Test.YtpjenhojldcmiaaIAllx6
namespace Go.Proofs.Ytpjenhojldcmiaa.IAll
open Go.RowKit Go.Proofs.YtpjenhojldcmiaaW.PrintWords Go.Proofs.YtpjenhojldcmiaaW.PrintLast Go.Proofs.YtpjenhojldcmiaaW.PrintMore
attribute [local go_sem] max2_int min2_int max_two min_two max_three min_three max_four min_four   -- for this text's walks alone
set_option linter.unusedVariables false
set_option linter.unusedSimpArgs false

/-! ### cpuif_If_Write: function 15 -/
def cpuif_If_Write.f (s0_0 : Int) (s0_1 : Int) (s0_2 : Int) (s0_3 : Bool) (s0_4 : Bool) (s0_5 : Bool) (s0_6 : Int) (s0_7 : Int) (a1 : Int) (a2 : Int) : Option (Bool × Int × Int × Int × Bool × Bool × Bool × Int × Int) := if a1 = 6 then ((prio_Real.f (wrap64 (Go.bits .and .u64 a2 255))).bind fun t122 => (some (true, t122, s0_1, s0_2, s0_3, s0_4, s0_5, s0_6, s0_7))) else (if a1 = 7 then (some (true, s0_0, wrap64 (Go.bits .and .u64 a2 7), s0_2, s0_3, s0_4, s0_5, s0_6, s0_7)) else (if a1 = 8 then (some (true, s0_0, s0_1, mx 1 (wrap64 (Go.bits .and .u64 a2 7)), s0_3, s0_4, s0_5, s0_6, s0_7)) else (if a1 = 9 then (some (true, s0_0, s0_1, s0_2, s0_3, s0_4, ((Go.bits .and .u64 a2 2) == 2), s0_6, s0_7)) else (if a1 = 10 then (some (true, s0_0, s0_1, s0_2, ((Go.bits .and .u64 a2 1) == 1), s0_4, s0_5, s0_6, s0_7)) else (if a1 = 11 then (some (true, s0_0, s0_1, s0_2, s0_3, ((Go.bits .and .u64 a2 1) == 1), s0_5, s0_6, s0_7)) else (some (false, s0_0, s0_1, s0_2, s0_3, s0_4, s0_5, s0_6, s0_7)))))))
set_option maxHeartbeats 8000000 in
set_option maxRecDepth 100000 in
theorem cpuif_If_Write.calls (g : Nat) (s0_0 : Int) (s0_1 : Int) (s0_2 : Int) (s0_3 : Bool) (s0_4 : Bool) (s0_5 : Bool) (s0_6 : Int) (s0_7 : Int) (a1 : Int) (a2 : Int) (r1 : Bool) (r2 : Int) (r3 : Int) (r4 : Int) (r5 : Bool) (r6 : Bool) (r7 : Bool) (r8 : Int) (r9 : Int) (w0 w : World) (hI : IsS29 w0 w g s0_0 s0_1 s0_2 s0_3 s0_4 s0_5 s0_6 s0_7) (hB : Below w0.heap.size w0 w) (h : cpuif_If_Write.f s0_0 s0_1 s0_2 s0_3 s0_4 s0_5 s0_6 s0_7 a1 a2 = some (r1, r2, r3, r4, r5, r6, r7, r8, r9)) :
    Calls Try.prog 15 #[.pointer (some ⟨g, 0, none⟩), .int .i64 a1, .int .u64 a2] w fun e w' => e = .returned (.bool r1) ∧ IsS29 w0 w' g r2 r3 r4 r5 r6 r7 r8 r9 ∧ Below w0.heap.size w0 w' ∧ KeepBut w w' g none := by
  have HI0 := Aside0.mk hI
  have HK := Aside0.mk (KeepBut.refl w g none)
  have HL := Aside0.mk hB.size
  clear hI
  have HW0 := Aside0.mk hB.size
  have HB := Aside0.mk hB
  clear hB
  have H : (if a1 = 6 then ((prio_Real.f (wrap64 (Go.bits .and .u64 a2 255))).bind fun t122 => (some (true, t122, s0_1, s0_2, s0_3, s0_4, s0_5, s0_6, s0_7))) else (if a1 = 7 then (some (true, s0_0, wrap64 (Go.bits .and .u64 a2 7), s0_2, s0_3, s0_4, s0_5, s0_6, s0_7)) else (if a1 = 8 then (some (true, s0_0, s0_1, mx 1 (wrap64 (Go.bits .and .u64 a2 7)), s0_3, s0_4, s0_5, s0_6, s0_7)) else (if a1 = 9 then (some (true, s0_0, s0_1, s0_2, s0_3, s0_4, ((Go.bits .and .u64 a2 2) == 2), s0_6, s0_7)) else (if a1 = 10 then (some (true, s0_0, s0_1, s0_2, ((Go.bits .and .u64 a2 1) == 1), s0_4, s0_5, s0_6, s0_7)) else (if a1 = 11 then (some (true, s0_0, s0_1, s0_2, s0_3, ((Go.bits .and .u64 a2 1) == 1), s0_5, s0_6, s0_7)) else (some (false, s0_0, s0_1, s0_2, s0_3, s0_4, s0_5, s0_6, s0_7)))))))) = some (r1, r2, r3, r4, r5, r6, r7, r8, r9) := h
  clear h
  by_cases c4 : a1 = 6
  · rw [if_pos c4] at H
    have c4b0 : (a1 == 6) = true := beq_iff_eq.mpr c4
    have c4b1 : (a1 != 6) = false := bne_eq_false_iff_eq.mpr c4
    clear c4
    replace H := Option.bind_eq_some_iff.mp H
    obtain ⟨t122, A50, H⟩ := H
    replace H : (some (true, t122, s0_1, s0_2, s0_3, s0_4, s0_5, s0_6, s0_7)) = some (r1, r2, r3, r4, r5, r6, r7, r8, r9) := H
    have A5 := Aside0.mk A50
    clear A50
    simp only [Option.some.injEq, Prod.mk.injEq] at H
    obtain ⟨rfl, rfl, rfl, rfl, rfl, rfl, rfl, rfl, rfl⟩ := H
    go_enter Try.func15, Try.ntmps15
    go_wp2_with (first | ((with_reducible refine gate_callee (f := 37) rfl ?_); refine goesL_ (some 14) rfl rfl Try.func37 (by kernel_rfl) rfl #[.int .i64 (wrap64 (Go.bits .and .u64 a2 255))] rfl (by (try simp only [List.map_toArray, List.map_cons, List.map_nil]); first | done | rfl | (simp only [List.length_drop, List.length_take]; rfl)) ?_; (with_reducible refine (prio_Real.calls (wrap64 (Go.bits .and .u64 a2 255)) t122 _ A5.out).mono ?_); rintro e w' ⟨rfl, ⟨nd, rfl⟩⟩; refine ⟨_, rfl, ?_⟩; obtain ⟨HGz6, hgz6⟩ := HI0.out; have hcz6_0 := cellS29_0 HGz6; have hcz6_1 := cellS29_1 HGz6; have hcz6_2 := cellS29_2 HGz6; have hcz6_3 := cellS29_3 HGz6; have hcz6_4 := cellS29_4 HGz6; have hcz6_5 := cellS29_5 HGz6; have hcz6_6 := cellS29_6 HGz6; have hcz6_7 := cellS29_7 HGz6; have hfz6_0 := blk_frozen HGz6 0; have hfz6_1 := blk_frozen HGz6 1; have hfz6_2 := blk_frozen HGz6 2; have hfz6_3 := blk_frozen HGz6 3; have hfz6_4 := blk_frozen HGz6 4; have hfz6_5 := blk_frozen HGz6 5; have hfz6_6 := blk_frozen HGz6 6; have hfz6_7 := blk_frozen HGz6 7; clear HGz6 hgz6))
    go_ret
    exact ⟨by first | rfl | (simp [errW_none, errW_some] <;> rfl) | (simp [*, errW_none, errW_some] <;> rfl), by repeat (first | (with_reducible first | exact HI0.out | apply IsS29.alloc | apply IsS29.drewN | apply IsS29.drew | apply IsS29.set_0 | apply IsS29.set_1 | apply IsS29.set_2 | apply IsS29.set_3 | apply IsS29.set_4 | apply IsS29.set_5 | apply IsS29.set_6 | apply IsS29.set_7) | exact HI0.out), by repeat (first | (with_reducible first | exact HB.out | apply below_alloc | apply pw_below_drewN | apply below_drew1 | refine below_set ?_ (IsS29.ge HI0.out)) | exact HB.out), by repeat (first | (with_reducible first | exact HK.out | apply KeepBut.set_ | apply keep_drewN | apply keep_drew | apply keep_alloc) | exact HK.out)⟩
  · rw [if_neg c4] at H
    have c4b0 : (a1 == 6) = false := beq_eq_false_iff_ne.mpr c4
    have c4b1 : (a1 != 6) = true := bne_iff_ne.mpr c4
    by_cases c7 : a1 = 7
    · rw [if_pos c7] at H
      have c7b0 : (a1 == 7) = true := beq_iff_eq.mpr c7
      have c7b1 : (a1 != 7) = false := bne_eq_false_iff_eq.mpr c7
      clear c7
      simp only [Option.some.injEq, Prod.mk.injEq] at H
      obtain ⟨rfl, rfl, rfl, rfl, rfl, rfl, rfl, rfl, rfl⟩ := H
      obtain ⟨HGz8, hgz8⟩ := HI0.out
      have hcz8_0 := cellS29_0 HGz8
      have hcz8_1 := cellS29_1 HGz8
      have hcz8_2 := cellS29_2 HGz8
      have hcz8_3 := cellS29_3 HGz8
      have hcz8_4 := cellS29_4 HGz8
      have hcz8_5 := cellS29_5 HGz8
      have hcz8_6 := cellS29_6 HGz8
      have hcz8_7 := cellS29_7 HGz8
      have hfz8_0 := blk_frozen HGz8 0
      have hfz8_1 := blk_frozen HGz8 1
      have hfz8_2 := blk_frozen HGz8 2
      have hfz8_3 := blk_frozen HGz8 3
      have hfz8_4 := blk_frozen HGz8 4
      have hfz8_5 := blk_frozen HGz8 5
      have hfz8_6 := blk_frozen HGz8 6
      have hfz8_7 := blk_frozen HGz8 7
      clear HGz8 hgz8
      go_enter Try.func15, Try.ntmps15
      go_wp2
      go_ret
      exact ⟨by first | rfl | (simp [errW_none, errW_some] <;> rfl) | (simp [*, errW_none, errW_some] <;> rfl), by repeat (first | (with_reducible first | exact HI0.out | apply IsS29.alloc | apply IsS29.drewN | apply IsS29.drew | apply IsS29.set_0 | apply IsS29.set_1 | apply IsS29.set_2 | apply IsS29.set_3 | apply IsS29.set_4 | apply IsS29.set_5 | apply IsS29.set_6 | apply IsS29.set_7) | exact HI0.out), by repeat (first | (with_reducible first | exact HB.out | apply below_alloc | apply pw_below_drewN | apply below_drew1 | refine below_set ?_ (IsS29.ge HI0.out)) | exact HB.out), by repeat (first | (with_reducible first | exact HK.out | apply KeepBut.set_ | apply keep_drewN | apply keep_drew | apply keep_alloc) | exact HK.out)⟩
    · rw [if_neg c7] at H
      have c7b0 : (a1 == 7) = false := beq_eq_false_iff_ne.mpr c7
      have c7b1 : (a1 != 7) = true := bne_iff_ne.mpr c7
      by_cases c9 : a1 = 8
      · rw [if_pos c9] at H
        have c9b0 : (a1 == 8) = true := beq_iff_eq.mpr c9
        have c9b1 : (a1 != 8) = false := bne_eq_false_iff_eq.mpr c9
        clear c9
        obtain ⟨ji10, hji10⟩ : ∃ j_ : Int, (mx 1 (wrap64 (Go.bits .and .u64 a2 7))) = j_ := ⟨_, rfl⟩
        replace H : (some (true, s0_0, s0_1, ji10, s0_3, s0_4, s0_5, s0_6, s0_7)) = some (r1, r2, r3, r4, r5, r6, r7, r8, r9) := by first | (rw [hji10] at H; exact H) | (simp only [hji10] at H ⊢; exact H)
        (try (have hji10l : 1 ≤ ji10 := by (rw [← hji10]; unfold mx; (repeat' split) <;> omega)))
        (try (have hji10m : 0 ≤ ji10 := by omega))
        have hji10_ : (if 1 < (wrap64 (Go.bits .and .u64 a2 7)) then (wrap64 (Go.bits .and .u64 a2 7)) else 1) = ji10 := hji10
        simp only [Option.some.injEq, Prod.mk.injEq] at H
        obtain ⟨rfl, rfl, rfl, rfl, rfl, rfl, rfl, rfl, rfl⟩ := H
        obtain ⟨HGz11, hgz11⟩ := HI0.out
        have hcz11_0 := cellS29_0 HGz11
        have hcz11_1 := cellS29_1 HGz11
        have hcz11_2 := cellS29_2 HGz11
        have hcz11_3 := cellS29_3 HGz11
        have hcz11_4 := cellS29_4 HGz11
        have hcz11_5 := cellS29_5 HGz11
        have hcz11_6 := cellS29_6 HGz11
        have hcz11_7 := cellS29_7 HGz11
        have hfz11_0 := blk_frozen HGz11 0
        have hfz11_1 := blk_frozen HGz11 1
        have hfz11_2 := blk_frozen HGz11 2
        have hfz11_3 := blk_frozen HGz11 3
        have hfz11_4 := blk_frozen HGz11 4
        have hfz11_5 := blk_frozen HGz11 5
        have hfz11_6 := blk_frozen HGz11 6
        have hfz11_7 := blk_frozen HGz11 7
        clear HGz11 hgz11
        go_enter Try.func15, Try.ntmps15
        go_wp2
        go_ret
        exact ⟨by first | rfl | (simp [errW_none, errW_some] <;> rfl) | (simp only [← hji10]; first | rfl | (simp [errW_none, errW_some] <;> rfl)) | (simp [*, errW_none, errW_some] <;> rfl), by repeat (first | (with_reducible first | exact HI0.out | apply IsS29.alloc | apply IsS29.drewN | apply IsS29.drew | apply IsS29.set_0 | apply IsS29.set_1 | apply IsS29.set_2 | apply IsS29.set_3 | apply IsS29.set_4 | apply IsS29.set_5 | apply IsS29.set_6 | apply IsS29.set_7) | exact HI0.out), by repeat (first | (with_reducible first | exact HB.out | apply below_alloc | apply pw_below_drewN | apply below_drew1 | refine below_set ?_ (IsS29.ge HI0.out)) | exact HB.out), by repeat (first | (with_reducible first | exact HK.out | apply KeepBut.set_ | apply keep_drewN | apply keep_drew | apply keep_alloc) | exact HK.out)⟩
      · rw [if_neg c9] at H
        have c9b0 : (a1 == 8) = false := beq_eq_false_iff_ne.mpr c9
        have c9b1 : (a1 != 8) = true := bne_iff_ne.mpr c9
        by_cases c12 : a1 = 9
        · rw [if_pos c12] at H
          have c12b0 : (a1 == 9) = true := beq_iff_eq.mpr c12
          have c12b1 : (a1 != 9) = false := bne_eq_false_iff_eq.mpr c12
          clear c12
          simp only [Option.some.injEq, Prod.mk.injEq] at H
          obtain ⟨rfl, rfl, rfl, rfl, rfl, rfl, rfl, rfl, rfl⟩ := H
          obtain ⟨HGz13, hgz13⟩ := HI0.out
          have hcz13_0 := cellS29_0 HGz13
          have hcz13_1 := cellS29_1 HGz13
          have hcz13_2 := cellS29_2 HGz13
          have hcz13_3 := cellS29_3 HGz13
          have hcz13_4 := cellS29_4 HGz13
          have hcz13_5 := cellS29_5 HGz13
          have hcz13_6 := cellS29_6 HGz13
          have hcz13_7 := cellS29_7 HGz13
          have hfz13_0 := blk_frozen HGz13 0
          have hfz13_1 := blk_frozen HGz13 1
          have hfz13_2 := blk_frozen HGz13 2
          have hfz13_3 := blk_frozen HGz13 3
          have hfz13_4 := blk_frozen HGz13 4
          have hfz13_5 := blk_frozen HGz13 5
          have hfz13_6 := blk_frozen HGz13 6
          have hfz13_7 := blk_frozen HGz13 7
          clear HGz13 hgz13
          go_enter Try.func15, Try.ntmps15
          go_wp2
          go_ret
          exact ⟨by first | rfl | (simp [errW_none, errW_some] <;> rfl) | (simp [*, errW_none, errW_some] <;> rfl), by repeat (first | (with_reducible first | exact HI0.out | apply IsS29.alloc | apply IsS29.drewN | apply IsS29.drew | apply IsS29.set_0 | apply IsS29.set_1 | apply IsS29.set_2 | apply IsS29.set_3 | apply IsS29.set_4 | apply IsS29.set_5 | apply IsS29.set_6 | apply IsS29.set_7) | exact HI0.out), by repeat (first | (with_reducible first | exact HB.out | apply below_alloc | apply pw_below_drewN | apply below_drew1 | refine below_set ?_ (IsS29.ge HI0.out)) | exact HB.out), by repeat (first | (with_reducible first | exact HK.out | apply KeepBut.set_ | apply keep_drewN | apply keep_drew | apply keep_alloc) | exact HK.out)⟩
        · rw [if_neg c12] at H
          have c12b0 : (a1 == 9) = false := beq_eq_false_iff_ne.mpr c12
          have c12b1 : (a1 != 9) = true := bne_iff_ne.mpr c12
          by_cases c14 : a1 = 10
          · rw [if_pos c14] at H
            have c14b0 : (a1 == 10) = true := beq_iff_eq.mpr c14
            have c14b1 : (a1 != 10) = false := bne_eq_false_iff_eq.mpr c14
            clear c14
            simp only [Option.some.injEq, Prod.mk.injEq] at H
            obtain ⟨rfl, rfl, rfl, rfl, rfl, rfl, rfl, rfl, rfl⟩ := H
            obtain ⟨HGz15, hgz15⟩ := HI0.out
            have hcz15_0 := cellS29_0 HGz15
            have hcz15_1 := cellS29_1 HGz15
            have hcz15_2 := cellS29_2 HGz15
            have hcz15_3 := cellS29_3 HGz15
            have hcz15_4 := cellS29_4 HGz15
            have hcz15_5 := cellS29_5 HGz15
            have hcz15_6 := cellS29_6 HGz15
            have hcz15_7 := cellS29_7 HGz15
            have hfz15_0 := blk_frozen HGz15 0
            have hfz15_1 := blk_frozen HGz15 1
            have hfz15_2 := blk_frozen HGz15 2
            have hfz15_3 := blk_frozen HGz15 3
            have hfz15_4 := blk_frozen HGz15 4
            have hfz15_5 := blk_frozen HGz15 5
            have hfz15_6 := blk_frozen HGz15 6
            have hfz15_7 := blk_frozen HGz15 7
            clear HGz15 hgz15
            go_enter Try.func15, Try.ntmps15
            go_wp2
            go_ret
            exact ⟨by first | rfl | (simp [errW_none, errW_some] <;> rfl) | (simp [*, errW_none, errW_some] <;> rfl), by repeat (first | (with_reducible first | exact HI0.out | apply IsS29.alloc | apply IsS29.drewN | apply IsS29.drew | apply IsS29.set_0 | apply IsS29.set_1 | apply IsS29.set_2 | apply IsS29.set_3 | apply IsS29.set_4 | apply IsS29.set_5 | apply IsS29.set_6 | apply IsS29.set_7) | exact HI0.out), by repeat (first | (with_reducible first | exact HB.out | apply below_alloc | apply pw_below_drewN | apply below_drew1 | refine below_set ?_ (IsS29.ge HI0.out)) | exact HB.out), by repeat (first | (with_reducible first | exact HK.out | apply KeepBut.set_ | apply keep_drewN | apply keep_drew | apply keep_alloc) | exact HK.out)⟩
          · rw [if_neg c14] at H
            have c14b0 : (a1 == 10) = false := beq_eq_false_iff_ne.mpr c14
            have c14b1 : (a1 != 10) = true := bne_iff_ne.mpr c14
            by_cases c16 : a1 = 11
            · rw [if_pos c16] at H
              have c16b0 : (a1 == 11) = true := beq_iff_eq.mpr c16
              have c16b1 : (a1 != 11) = false := bne_eq_false_iff_eq.mpr c16
              clear c16
              simp only [Option.some.injEq, Prod.mk.injEq] at H
              obtain ⟨rfl, rfl, rfl, rfl, rfl, rfl, rfl, rfl, rfl⟩ := H
              obtain ⟨HGz17, hgz17⟩ := HI0.out
              have hcz17_0 := cellS29_0 HGz17
              have hcz17_1 := cellS29_1 HGz17
              have hcz17_2 := cellS29_2 HGz17
              have hcz17_3 := cellS29_3 HGz17
              have hcz17_4 := cellS29_4 HGz17
              have hcz17_5 := cellS29_5 HGz17
              have hcz17_6 := cellS29_6 HGz17
              have hcz17_7 := cellS29_7 HGz17
              have hfz17_0 := blk_frozen HGz17 0
              have hfz17_1 := blk_frozen HGz17 1
              have hfz17_2 := blk_frozen HGz17 2
              have hfz17_3 := blk_frozen HGz17 3
              have hfz17_4 := blk_frozen HGz17 4
              have hfz17_5 := blk_frozen HGz17 5
              have hfz17_6 := blk_frozen HGz17 6
              have hfz17_7 := blk_frozen HGz17 7
              clear HGz17 hgz17
              go_enter Try.func15, Try.ntmps15
              go_wp2
              go_ret
              exact ⟨by first | rfl | (simp [errW_none, errW_some] <;> rfl) | (simp [*, errW_none, errW_some] <;> rfl), by repeat (first | (with_reducible first | exact HI0.out | apply IsS29.alloc | apply IsS29.drewN | apply IsS29.drew | apply IsS29.set_0 | apply IsS29.set_1 | apply IsS29.set_2 | apply IsS29.set_3 | apply IsS29.set_4 | apply IsS29.set_5 | apply IsS29.set_6 | apply IsS29.set_7) | exact HI0.out), by repeat (first | (with_reducible first | exact HB.out | apply below_alloc | apply pw_below_drewN | apply below_drew1 | refine below_set ?_ (IsS29.ge HI0.out)) | exact HB.out), by repeat (first | (with_reducible first | exact HK.out | apply KeepBut.set_ | apply keep_drewN | apply keep_drew | apply keep_alloc) | exact HK.out)⟩
            · rw [if_neg c16] at H
              have c16b0 : (a1 == 11) = false := beq_eq_false_iff_ne.mpr c16
              have c16b1 : (a1 != 11) = true := bne_iff_ne.mpr c16
              simp only [Option.some.injEq, Prod.mk.injEq] at H
              obtain ⟨rfl, rfl, rfl, rfl, rfl, rfl, rfl, rfl, rfl⟩ := H
              go_enter Try.func15, Try.ntmps15
              go_wp2
              go_ret
              exact ⟨by first | rfl | (simp [errW_none, errW_some] <;> rfl) | (simp [*, errW_none, errW_some] <;> rfl), by repeat (first | (with_reducible first | exact HI0.out | apply IsS29.alloc | apply IsS29.drewN | apply IsS29.drew | apply IsS29.set_0 | apply IsS29.set_1 | apply IsS29.set_2 | apply IsS29.set_3 | apply IsS29.set_4 | apply IsS29.set_5 | apply IsS29.set_6 | apply IsS29.set_7) | exact HI0.out), by repeat (first | (with_reducible first | exact HB.out | apply below_alloc | apply pw_below_drewN | apply below_drew1 | refine below_set ?_ (IsS29.ge HI0.out)) | exact HB.out), by repeat (first | (with_reducible first | exact HK.out | apply KeepBut.set_ | apply keep_drewN | apply keep_drew | apply keep_alloc) | exact HK.out)⟩

/-! ### cpuif_bit: function 38 -/
def cpuif_bit.f (a0 : Bool) : Option (Int) := if a0 = true then (some 1) else (some 0)
set_option maxHeartbeats 8000000 in
set_option maxRecDepth 100000 in
theorem cpuif_bit.calls (a0 : Bool) (r : Int) (w : World) (h : cpuif_bit.f a0 = some r) :
    Calls Try.prog 38 #[.bool a0] w fun e w' => e = .returned (.int .u64 r) ∧ Drawn0 w w' := by
  have H : (if a0 = true then (some 1) else (some 0)) = some r := h
  clear h
  by_cases c2 : a0 = true
  · subst c2
    have H1 : (some 1) = some r := by first | (rw [if_pos rfl] at H; exact H) | (rw [if_pos trivial] at H; exact H)
    clear H
    have H := H1
    clear H1
    obtain rfl := Option.some.inj H
    go_enter Try.func38, Try.ntmps38
    go_wp2
    go_ret
    exact ⟨by first | rfl | (simp; done) | (simp [*]; done), by repeat (first | exact Drawn0.refl _ | apply Drawn0.step)⟩
  · replace c2 := Bool.eq_false_iff.mpr c2
    subst c2
    have H1 : (some 0) = some r := by rw [if_neg (show ¬ (false = true) by decide)] at H; exact H
    clear H
    have H := H1
    clear H1
    obtain rfl := Option.some.inj H
    go_enter Try.func38, Try.ntmps38
    go_wp2
    go_ret
    exact ⟨by first | rfl | (simp; done) | (simp [*]; done), by repeat (first | exact Drawn0.refl _ | apply Drawn0.step)⟩

end Go.Proofs.Ytpjenhojldcmiaa.IAll
