/- Texts of this claim, put together: Vf. -/
import Derived.Test.YtkbaghblchlcnaaD18
import Derived.Deep.RegionHeld3
import Derived.Deep.RegionWith
import Derived.Test.YtkbaghblchlcnaaD19
import Derived.Deep.DeepCutAuto
namespace Go.Proofs.Ytkbaghblchlcnaa.Lr
open Go.RowKit Go.Shelf Go.Proofs.YtkbaghblchlcnaaW.PrintWords Go.Proofs.Ytkbaghblchlcnaa.IAll
attribute [local go_sem] Oper.semAt_some cell_row frozen_row isRow_setCell_eq rowAt_setCell_same rowAt_setCell_other isRow_alloc_eq rowAt_alloc rowAt_new rowAt_new' isRow_setRow_eq rowAt_setRow_same rowAt_setRow_other isRow_drew rowAt_drew size_setRow_ Lb_size Lb_at blk_ptr aggOf_agg below_alloc_e below_setCell_e below_setRow_e below_refl_e below_drew_r aside2_alloc_e aside2_setCell_e aside2_setRow_e aside2_drew_e aside2_refl_e aside2_drewN_e isRow_drewN rowAt_drewN below_drewN_e le_add_r offv_ptr one_lad zero_lad allOne_nil allOne_cons Value.oneCell' addr_at FA_size one_FA RV_size RV_get70 RV_get71 RV_at70 RV_at71 RV_at5 RV_set71 RV_ext RV_spl RV_low RC_size zeroF zero_rc zero_rc2 RC_one row_ne row_ne'
attribute [local go_sem ↓] storeI storeC loadF0 storeF0 loadF storeF
attribute [local go_sem] eq2i eq2b eq2u
set_option maxRecDepth 100000 in
set_option maxHeartbeats 4000000 in
theorem rack_no (g bl : Nat) (R R' : Array Value) (hR : R.size = 70) (hR' : R'.size = 70) (hO : AllOne R') (n : Nat) (C : Array Value) (lost id pr gr : Int) (is : Bool) (gp : Int) (w : World) (hr : isRow w g) (hr' : rowAt w g = (RV R (.slice (some ⟨bl, 0, none⟩) n n) (.int .i64 lost))) (hl : isRow w bl) (hl' : rowAt w bl = C) (hne : ¬ g = bl) (hne' : ¬ bl = g) 
    (HB : Hid (∀ W : World, isRow W bl → rowAt W bl = C → Calls Try.prog 58 #[.slice (some ⟨bl, 0, none⟩) n n] W fun e w' => e = .returned (.agg #[.int .i64 id, .int .i64 pr, .int .i64 gr, .bool is]) ∧ Below W.heap.size W w'))
    (HT : Hid (∀ W : World, Calls Try.prog 92 #[.agg R, .agg #[.int .i64 id, .int .i64 pr, .int .i64 gr, .bool is], .int .i64 gp] W fun e w' => e = .returned (.tuple #[.agg R', .int .i64 1023, .bool false]) ∧ Below W.heap.size W w')) :
    Calls Try.prog 84 #[.pointer (some ⟨g, 0, none⟩), .int .i64 gp] w fun e w' => e = .returned (.int .i64 1023) ∧ Row w' g (RV R' (.slice (some ⟨bl, 0, none⟩) n n) (.int .i64 lost)) ∧ Row w' bl C ∧ Aside2 g bl w w' := by
  have _u : True := by have _ := hne; have _ := hne'; trivial
  clear _u
  have hB0 : Below w.heap.size w w := Below.refl _ _
  skip
  go_enter Try.func84, Try.ntmps84
  go_upto_region 1 with fail
  go_cut [5, 6, 7] (fun s5 s6 s7 wx => ∃ B : Nat, s5 = .pointer (some ⟨B, 0, none⟩) ∧ s6 = .int .i64 1023 ∧ s7 = .bool false ∧ w.heap.size ≤ B ∧ Row wx B R' ∧ Row wx g (RV R (.slice (some ⟨bl, 0, none⟩) n n) (.int .i64 lost)) ∧ Row wx bl C ∧ Below w.heap.size w wx)
  case first =>
    have hB_0 : Below w.heap.size w w := Below.refl _ _
    refine wp_region_held_drew (S := fun w' => isRow w' g ∧ rowAt w' g = (RV R (.slice (some ⟨bl, 0, none⟩) n n) (.int .i64 lost)) ∧ isRow w' bl ∧ rowAt w' bl = C ∧ Below w.heap.size w w') (by kernel_rfl) ⟨hr, hr', hl, hl', below_drew0 hB_0⟩ (fun hHeld => ?_)
    refine wpAnyH_take (i := 0) (oi := { dst := some 10, op := Op.move (Operand.tmp 0), type := 75, pos := "ref.go:49", after := #[], guard := none }) (v := ?_) rfl (by kernel_rfl) (by kernel_rfl) (by kernel_rfl) (fun _ _ _ h => h) (Or.inl ⟨by rfl, ?_⟩) (by assumption) ?_
    rotate_left
    · (intro w_ hS_; (try dsimp only at hS_); go_simp; try with_reducible rfl)
    try simp only [Act.put, List.setIfInBounds_toArray, List.set_cons_zero, List.set_cons_succ]
    refine wpAnyH_take (i := 1) (oi := { dst := some 11, op := Op.nilCheck (Operand.tmp 10), type := 0, pos := "ref.go:49", after := #[{ on := 0, ground := Ground.data }], guard := none }) (v := ?_) rfl (by kernel_rfl) (by kernel_rfl) (by kernel_rfl) (fun _ _ _ h => h) (Or.inl ⟨by rfl, ?_⟩) (by assumption) ?_
    rotate_left
    · (intro w_ hS_; (try dsimp only at hS_); go_simp; try with_reducible rfl)
    try simp only [Act.put, List.setIfInBounds_toArray, List.set_cons_zero, List.set_cons_succ]
    refine wpAnyH_take (i := 2) (oi := { dst := some 12, op := Op.fieldAddr 110 (Operand.tmp 11) 0, type := 0, pos := "ref.go:49", after := #[{ on := 1, ground := Ground.data }], guard := none }) (v := ?_) rfl (by kernel_rfl) (by kernel_rfl) (by kernel_rfl) (fun _ _ _ h => h) (Or.inl ⟨by rfl, ?_⟩) (by assumption) ?_
    rotate_left
    · (intro w_ hS_; (try dsimp only at hS_); go_simp; try with_reducible rfl)
    try simp only [Act.put, List.setIfInBounds_toArray, List.set_cons_zero, List.set_cons_succ]
    refine wpAnyH_take (i := 3) (oi := { dst := some 13, op := Op.load 107 (Operand.tmp 12), type := 107, pos := "ref.go:49", after := #[{ on := 2, ground := Ground.data }], guard := none }) (v := ?_) rfl (by kernel_rfl) (by kernel_rfl) (by kernel_rfl) (fun _ _ _ h => h) (Or.inl ⟨by rfl, ?_⟩) (by assumption) ?_
    rotate_left
    · (intro w_ hS_; (try dsimp only at hS_); go_simp; try with_reducible rfl)
    try simp only [Act.put, List.setIfInBounds_toArray, List.set_cons_zero, List.set_cons_succ]
    refine wpAnyH_take (i := 4) (oi := { dst := some 14, op := Op.move (Operand.tmp 0), type := 75, pos := "ref.go:49", after := #[], guard := none }) (v := ?_) rfl (by kernel_rfl) (by kernel_rfl) (by kernel_rfl) (fun _ _ _ h => h) (Or.inl ⟨by rfl, ?_⟩) (by assumption) ?_
    rotate_left
    · (intro w_ hS_; (try dsimp only at hS_); go_simp; try with_reducible rfl)
    try simp only [Act.put, List.setIfInBounds_toArray, List.set_cons_zero, List.set_cons_succ]
    refine wpAnyH_take (i := 5) (oi := { dst := some 15, op := Op.nilCheck (Operand.tmp 14), type := 0, pos := "ref.go:49", after := #[{ on := 4, ground := Ground.data }], guard := none }) (v := ?_) rfl (by kernel_rfl) (by kernel_rfl) (by kernel_rfl) (fun _ _ _ h => h) (Or.inl ⟨by rfl, ?_⟩) (by assumption) ?_
    rotate_left
    · (intro w_ hS_; (try dsimp only at hS_); go_simp; try with_reducible rfl)
    try simp only [Act.put, List.setIfInBounds_toArray, List.set_cons_zero, List.set_cons_succ]
    refine wpAnyH_take (i := 6) (oi := { dst := some 16, op := Op.fieldAddr 110 (Operand.tmp 15) 1, type := 0, pos := "ref.go:49", after := #[{ on := 5, ground := Ground.data }], guard := none }) (v := ?_) rfl (by kernel_rfl) (by kernel_rfl) (by kernel_rfl) (fun _ _ _ h => h) (Or.inl ⟨by rfl, ?_⟩) (by assumption) ?_
    rotate_left
    · (intro w_ hS_; (try dsimp only at hS_); go_simp; try with_reducible rfl)
    try simp only [Act.put, List.setIfInBounds_toArray, List.set_cons_zero, List.set_cons_succ]
    refine wpAnyH_take (i := 7) (oi := { dst := some 17, op := Op.load 22 (Operand.tmp 16), type := 22, pos := "ref.go:49", after := #[{ on := 6, ground := Ground.data }], guard := none }) (v := ?_) rfl (by kernel_rfl) (by kernel_rfl) (by kernel_rfl) (fun _ _ _ h => h) (Or.inl ⟨by rfl, ?_⟩) (by assumption) ?_
    rotate_left
    · (intro w_ hS_; (try dsimp only at hS_); go_simp; try with_reducible rfl)
    try simp only [Act.put, List.setIfInBounds_toArray, List.set_cons_zero, List.set_cons_succ]
    refine wpAnyH_take (i := 9) (oi := { dst := some 19, op := Op.move (Operand.tmp 1), type := 3, pos := "ref.go:49", after := #[], guard := none }) (v := ?_) rfl (by kernel_rfl) (by kernel_rfl) (by kernel_rfl) (fun _ _ _ h => h) (Or.inl ⟨by rfl, ?_⟩) (by assumption) ?_
    rotate_left
    · (intro w_ hS_; (try dsimp only at hS_); go_simp; try with_reducible rfl)
    try simp only [Act.put, List.setIfInBounds_toArray, List.set_cons_zero, List.set_cons_succ]
    refine wpAnyH_ready (rs := [8, 15]) (by kernel_rfl) (by simp) ?_
    refine AllReadyH.cons (o := { dst := some 18, op := Op.call { callee := Callee.value (Operand.func 58), args := #[Operand.tmp 17], argTypes := #[22] }, type := 47, pos := "ref.go:49", after := #[{ on := 7, ground := Ground.data }], guard := none }) rfl (fun K hK => ?_) (AllReadyH.cons (o := { dst := some 5, op := Op.alloc 107, type := 0, pos := "ref.go:49", after := #[], guard := none }) rfl (fun K hK => ?_) AllReadyH.nil)
    · skip
      (have hq_ := hHeld; (try dsimp only at hq_))
      obtain ⟨PG_1q, PG_1q', PL_1q, PL_1q', hF_1q⟩ := hq_
      go_simp
      refine (HB.out _ (by assumption) (by assumption)).mono ?_
      rintro e u1 ⟨rfl, hb⟩
      refine hK.out _ _ ?_ (fun hHeld => ?_)
      · exact ⟨rk1 PG_1q hb, rk2 PG_1q PG_1q' hb, rk1 PL_1q hb, rk2 PL_1q PL_1q' hb, bk hF_1q hF_1q.size hb⟩
      clear hK K
      try simp only [Act.put, List.setIfInBounds_toArray, List.set_cons_zero, List.set_cons_succ]
      refine wpAnyH_ready (rs := [10, 15]) (by kernel_rfl) (by simp) ?_
      refine AllReadyH.cons (o := { dst := some 20, op := Op.call { callee := Callee.value (Operand.func 92), args := #[Operand.tmp 13, Operand.tmp 18, Operand.tmp 19], argTypes := #[107, 47, 3] }, type := 139, pos := "ref.go:49", after := #[{ on := 3, ground := Ground.data }, { on := 8, ground := Ground.data }, { on := 9, ground := Ground.data }, { on := 8, ground := Ground.chain }], guard := none }) rfl (fun K hK => ?_) (AllReadyH.cons (o := { dst := some 5, op := Op.alloc 107, type := 0, pos := "ref.go:49", after := #[], guard := none }) rfl (fun K hK => ?_) AllReadyH.nil)
      · skip
        (have hq_ := hHeld; (try dsimp only at hq_))
        obtain ⟨PG_2q, PG_2q', PL_2q, PL_2q', hF_2q⟩ := hq_
        go_simp
        refine (HT.out _).mono ?_
        rintro e u2 ⟨rfl, hb⟩
        refine hK.out _ _ ?_ (fun hHeld => ?_)
        · exact ⟨rk1 PG_2q hb, rk2 PG_2q PG_2q' hb, rk1 PL_2q hb, rk2 PL_2q PL_2q' hb, bk hF_2q hF_2q.size hb⟩
        clear hK K
        try simp only [Act.put, List.setIfInBounds_toArray, List.set_cons_zero, List.set_cons_succ]
        refine wpAnyH_take (i := 11) (oi := { dst := some 9, op := Op.move (Operand.tmp 20), type := 139, pos := "ref.go:49", after := #[{ on := 10, ground := Ground.data }], guard := none }) (v := ?_) rfl (by kernel_rfl) (by kernel_rfl) (by kernel_rfl) (fun _ _ _ h => h) (Or.inl ⟨by rfl, ?_⟩) (by assumption) ?_
        rotate_left
        · (intro w_ hS_; (try dsimp only at hS_); go_simp; try with_reducible rfl)
        try simp only [Act.put, List.setIfInBounds_toArray, List.set_cons_zero, List.set_cons_succ]
        refine wpAnyH_take (i := 12) (oi := { dst := some 21, op := Op.extract (Operand.tmp 9) 0, type := 107, pos := "ref.go:49", after := #[{ on := 11, ground := Ground.data }], guard := none }) (v := ?_) rfl (by kernel_rfl) (by kernel_rfl) (by kernel_rfl) (fun _ _ _ h => h) (Or.inl ⟨by rfl, ?_⟩) (by assumption) ?_
        rotate_left
        · (intro w_ hS_; (try dsimp only at hS_); go_simp; try with_reducible rfl)
        try simp only [Act.put, List.setIfInBounds_toArray, List.set_cons_zero, List.set_cons_succ]
        refine wpAnyH_take (i := 13) (oi := { dst := some 22, op := Op.extract (Operand.tmp 9) 1, type := 3, pos := "ref.go:49", after := #[{ on := 11, ground := Ground.data }, { on := 16, ground := Ground.gcOnly Departure.lateStores }], guard := none }) (v := ?_) rfl (by kernel_rfl) (by kernel_rfl) (by kernel_rfl) (fun _ _ _ h => h) (Or.inl ⟨by rfl, ?_⟩) (by assumption) ?_
        rotate_left
        · (intro w_ hS_; (try dsimp only at hS_); go_simp; try with_reducible rfl)
        try simp only [Act.put, List.setIfInBounds_toArray, List.set_cons_zero, List.set_cons_succ]
        refine wpAnyH_take (i := 14) (oi := { dst := some 23, op := Op.extract (Operand.tmp 9) 2, type := 4, pos := "ref.go:49", after := #[{ on := 11, ground := Ground.data }, { on := 17, ground := Ground.gcOnly Departure.lateStores }], guard := none }) (v := ?_) rfl (by kernel_rfl) (by kernel_rfl) (by kernel_rfl) (fun _ _ _ h => h) (Or.inl ⟨by rfl, ?_⟩) (by assumption) ?_
        rotate_left
        · (intro w_ hS_; (try dsimp only at hS_); go_simp; try with_reducible rfl)
        try simp only [Act.put, List.setIfInBounds_toArray, List.set_cons_zero, List.set_cons_succ]
        refine wpAnyH_ready (rs := [15]) (by kernel_rfl) (by simp) ?_
        refine AllReadyH.cons (o := { dst := some 5, op := Op.alloc 107, type := 0, pos := "ref.go:49", after := #[], guard := none }) rfl (fun K hK => ?_) AllReadyH.nil
        · skip
          (have hq_ := hHeld; (try dsimp only at hq_))
          obtain ⟨PG_3q, PG_3q', PL_3q, PL_3q', hF_3q⟩ := hq_
          go_simp
          obtain ⟨NB3, NB3'⟩ : Row (u2.alloc (.cells (RC 0 0 0 false false false fun _ => false) 107)) u2.heap.size (RC 0 0 0 false false false fun _ => false) := Row.new _ _ _
          have nb_G_3 : ¬ g = u2.heap.size := by have := isRow.lt PG_3q; (try simp only [size_drew_] at this); omega
          have bn_G_3 : ¬ u2.heap.size = g := by omega
          have nb_L_3 : ¬ bl = u2.heap.size := by have := isRow.lt PL_3q; (try simp only [size_drew_] at this); omega
          have bn_L_3 : ¬ u2.heap.size = bl := by omega
          have hz_3 : w.heap.size ≤ u2.heap.size := hF_3q.size
          refine hK.out _ _ ?_ (fun hHeld => ?_)
          · exact ⟨isRow_alloc PG_3q, (rowAt_alloc PG_3q).trans PG_3q', isRow_alloc PL_3q, (rowAt_alloc PL_3q).trans PL_3q', hF_3q.alloc hz_3 _⟩
          clear hK K
          try simp only [Act.put, List.setIfInBounds_toArray, List.set_cons_zero, List.set_cons_succ]
          refine wpAnyH_ready (rs := [16]) (by kernel_rfl) (by simp) ?_
          refine AllReadyH.cons (o := { dst := none, op := Op.store 107 (Operand.tmp 5) (Operand.tmp 21), type := 0, pos := "ref.go:49", after := #[{ on := 15, ground := Ground.data }, { on := 12, ground := Ground.data }, { on := 10, ground := Ground.chain }, { on := 0, ground := Ground.phase }, { on := 1, ground := Ground.phase }, { on := 2, ground := Ground.phase }, { on := 3, ground := Ground.phase }, { on := 4, ground := Ground.phase }, { on := 5, ground := Ground.phase }, { on := 6, ground := Ground.phase }, { on := 7, ground := Ground.phase }, { on := 8, ground := Ground.phase }, { on := 9, ground := Ground.phase }, { on := 10, ground := Ground.phase }, { on := 11, ground := Ground.phase }, { on := 12, ground := Ground.phase }, { on := 13, ground := Ground.textOnly Departure.lateStores }, { on := 14, ground := Ground.textOnly Departure.lateStores }, { on := 15, ground := Ground.phase }], guard := none }) rfl (fun K hK => ?_) AllReadyH.nil
          · skip
            (have hq_ := hHeld; (try dsimp only at hq_))
            obtain ⟨PG_4q, PG_4q', PL_4q, PL_4q', hF_4q⟩ := hq_
            go_simp
            obtain ⟨NB4, NB4'⟩ : Row ((u2.alloc (.cells (RC 0 0 0 false false false fun _ => false) 107)).setRow u2.heap.size R') u2.heap.size R' := Row.setRow NB3
            refine hK.out _ _ ?_ (fun hHeld => ?_)
            · exact ⟨isRow_setRow PG_4q, (rowAt_setRow_other (by assumption)).trans PG_4q', isRow_setRow PL_4q, (rowAt_setRow_other (by assumption)).trans PL_4q', below_setRow hF_4q (by assumption) _⟩
            clear hK K
            try simp only [Act.put, List.setIfInBounds_toArray, List.set_cons_zero, List.set_cons_succ]
            refine wpAnyH_take (i := 17) (oi := { dst := some 6, op := Op.assign (Operand.tmp 22), type := 3, pos := "ref.go:49", after := #[{ on := 13, ground := Ground.data }, { on := 16, ground := Ground.chain }, { on := 0, ground := Ground.phase }, { on := 1, ground := Ground.phase }, { on := 2, ground := Ground.phase }, { on := 3, ground := Ground.phase }, { on := 4, ground := Ground.phase }, { on := 5, ground := Ground.phase }, { on := 6, ground := Ground.phase }, { on := 7, ground := Ground.phase }, { on := 8, ground := Ground.phase }, { on := 9, ground := Ground.phase }, { on := 10, ground := Ground.phase }, { on := 11, ground := Ground.phase }, { on := 12, ground := Ground.phase }, { on := 13, ground := Ground.phase }, { on := 14, ground := Ground.textOnly Departure.lateStores }, { on := 15, ground := Ground.phase }, { on := 16, ground := Ground.phase }], guard := none }) (v := ?_) rfl (by kernel_rfl) (by kernel_rfl) (by kernel_rfl) (fun _ _ _ h => h) (Or.inl ⟨by rfl, ?_⟩) (by assumption) ?_
            rotate_left
            · (intro w_ hS_; (try dsimp only at hS_); go_simp; try with_reducible rfl)
            try simp only [Act.put, List.setIfInBounds_toArray, List.set_cons_zero, List.set_cons_succ]
            refine wpAnyH_take (i := 18) (oi := { dst := some 7, op := Op.assign (Operand.tmp 23), type := 4, pos := "ref.go:49", after := #[{ on := 14, ground := Ground.data }, { on := 17, ground := Ground.chain }, { on := 0, ground := Ground.phase }, { on := 1, ground := Ground.phase }, { on := 2, ground := Ground.phase }, { on := 3, ground := Ground.phase }, { on := 4, ground := Ground.phase }, { on := 5, ground := Ground.phase }, { on := 6, ground := Ground.phase }, { on := 7, ground := Ground.phase }, { on := 8, ground := Ground.phase }, { on := 9, ground := Ground.phase }, { on := 10, ground := Ground.phase }, { on := 11, ground := Ground.phase }, { on := 12, ground := Ground.phase }, { on := 13, ground := Ground.phase }, { on := 14, ground := Ground.phase }, { on := 15, ground := Ground.phase }, { on := 16, ground := Ground.phase }, { on := 17, ground := Ground.phase }], guard := none }) (v := ?_) rfl (by kernel_rfl) (by kernel_rfl) (by kernel_rfl) (fun _ _ _ h => h) (Or.inl ⟨by rfl, ?_⟩) (by assumption) ?_
            rotate_left
            · (intro w_ hS_; (try dsimp only at hS_); go_simp; try with_reducible rfl)
            try simp only [Act.put, List.setIfInBounds_toArray, List.set_cons_zero, List.set_cons_succ]
            refine wpAnyH_done (by kernel_rfl) ?_ _
            (have hq_ := hHeld; (try dsimp only at hq_))
            obtain ⟨PG_4e, PG_4e', PL_4e, PL_4e', hF_4e⟩ := hq_
            have hF := hF_4e
            (go_wp2_with fail; go_meet; exact ⟨u2.heap.size, rfl, rfl, rfl, by assumption, ⟨NB4, NB4'⟩, ⟨by assumption, by assumption⟩, ⟨by assumption, by assumption⟩, hF⟩)
      · skip
        (have hq_ := hHeld; (try dsimp only at hq_))
        obtain ⟨PG_5q, PG_5q', PL_5q, PL_5q', hF_5q⟩ := hq_
        go_simp
        obtain ⟨NB5, NB5'⟩ : Row (u1.alloc (.cells (RC 0 0 0 false false false fun _ => false) 107)) u1.heap.size (RC 0 0 0 false false false fun _ => false) := Row.new _ _ _
        have nb_G_5 : ¬ g = u1.heap.size := by have := isRow.lt PG_5q; (try simp only [size_drew_] at this); omega
        have bn_G_5 : ¬ u1.heap.size = g := by omega
        have nb_L_5 : ¬ bl = u1.heap.size := by have := isRow.lt PL_5q; (try simp only [size_drew_] at this); omega
        have bn_L_5 : ¬ u1.heap.size = bl := by omega
        have hz_5 : w.heap.size ≤ u1.heap.size := hF_5q.size
        refine hK.out _ _ ?_ (fun hHeld => ?_)
        · exact ⟨isRow_alloc PG_5q, (rowAt_alloc PG_5q).trans PG_5q', isRow_alloc PL_5q, (rowAt_alloc PL_5q).trans PL_5q', hF_5q.alloc hz_5 _⟩
        clear hK K
        try simp only [Act.put, List.setIfInBounds_toArray, List.set_cons_zero, List.set_cons_succ]
        refine wpAnyH_ready (rs := [10]) (by kernel_rfl) (by simp) ?_
        refine AllReadyH.cons (o := { dst := some 20, op := Op.call { callee := Callee.value (Operand.func 92), args := #[Operand.tmp 13, Operand.tmp 18, Operand.tmp 19], argTypes := #[107, 47, 3] }, type := 139, pos := "ref.go:49", after := #[{ on := 3, ground := Ground.data }, { on := 8, ground := Ground.data }, { on := 9, ground := Ground.data }, { on := 8, ground := Ground.chain }], guard := none }) rfl (fun K hK => ?_) AllReadyH.nil
        · skip
          (have hq_ := hHeld; (try dsimp only at hq_))
          obtain ⟨PG_6q, PG_6q', PL_6q, PL_6q', hF_6q⟩ := hq_
          go_simp
          refine (HT.out _).mono ?_
          rintro e u6 ⟨rfl, hb⟩
          obtain ⟨NB6, NB6'⟩ := Row.step NB5 NB5' hb
          refine hK.out _ _ ?_ (fun hHeld => ?_)
          · exact ⟨rk1 PG_6q hb, rk2 PG_6q PG_6q' hb, rk1 PL_6q hb, rk2 PL_6q PL_6q' hb, bk hF_6q hF_6q.size hb⟩
          clear hK K
          try simp only [Act.put, List.setIfInBounds_toArray, List.set_cons_zero, List.set_cons_succ]
          refine wpAnyH_take (i := 11) (oi := { dst := some 9, op := Op.move (Operand.tmp 20), type := 139, pos := "ref.go:49", after := #[{ on := 10, ground := Ground.data }], guard := none }) (v := ?_) rfl (by kernel_rfl) (by kernel_rfl) (by kernel_rfl) (fun _ _ _ h => h) (Or.inl ⟨by rfl, ?_⟩) (by assumption) ?_
          rotate_left
          · (intro w_ hS_; (try dsimp only at hS_); go_simp; try with_reducible rfl)
          try simp only [Act.put, List.setIfInBounds_toArray, List.set_cons_zero, List.set_cons_succ]
          refine wpAnyH_take (i := 12) (oi := { dst := some 21, op := Op.extract (Operand.tmp 9) 0, type := 107, pos := "ref.go:49", after := #[{ on := 11, ground := Ground.data }], guard := none }) (v := ?_) rfl (by kernel_rfl) (by kernel_rfl) (by kernel_rfl) (fun _ _ _ h => h) (Or.inl ⟨by rfl, ?_⟩) (by assumption) ?_
          rotate_left
          · (intro w_ hS_; (try dsimp only at hS_); go_simp; try with_reducible rfl)
          try simp only [Act.put, List.setIfInBounds_toArray, List.set_cons_zero, List.set_cons_succ]
          refine wpAnyH_take (i := 13) (oi := { dst := some 22, op := Op.extract (Operand.tmp 9) 1, type := 3, pos := "ref.go:49", after := #[{ on := 11, ground := Ground.data }, { on := 16, ground := Ground.gcOnly Departure.lateStores }], guard := none }) (v := ?_) rfl (by kernel_rfl) (by kernel_rfl) (by kernel_rfl) (fun _ _ _ h => h) (Or.inl ⟨by rfl, ?_⟩) (by assumption) ?_
          rotate_left
          · (intro w_ hS_; (try dsimp only at hS_); go_simp; try with_reducible rfl)
          try simp only [Act.put, List.setIfInBounds_toArray, List.set_cons_zero, List.set_cons_succ]
          refine wpAnyH_take (i := 14) (oi := { dst := some 23, op := Op.extract (Operand.tmp 9) 2, type := 4, pos := "ref.go:49", after := #[{ on := 11, ground := Ground.data }, { on := 17, ground := Ground.gcOnly Departure.lateStores }], guard := none }) (v := ?_) rfl (by kernel_rfl) (by kernel_rfl) (by kernel_rfl) (fun _ _ _ h => h) (Or.inl ⟨by rfl, ?_⟩) (by assumption) ?_
          rotate_left
          · (intro w_ hS_; (try dsimp only at hS_); go_simp; try with_reducible rfl)
          try simp only [Act.put, List.setIfInBounds_toArray, List.set_cons_zero, List.set_cons_succ]
          refine wpAnyH_ready (rs := [16]) (by kernel_rfl) (by simp) ?_
          refine AllReadyH.cons (o := { dst := none, op := Op.store 107 (Operand.tmp 5) (Operand.tmp 21), type := 0, pos := "ref.go:49", after := #[{ on := 15, ground := Ground.data }, { on := 12, ground := Ground.data }, { on := 10, ground := Ground.chain }, { on := 0, ground := Ground.phase }, { on := 1, ground := Ground.phase }, { on := 2, ground := Ground.phase }, { on := 3, ground := Ground.phase }, { on := 4, ground := Ground.phase }, { on := 5, ground := Ground.phase }, { on := 6, ground := Ground.phase }, { on := 7, ground := Ground.phase }, { on := 8, ground := Ground.phase }, { on := 9, ground := Ground.phase }, { on := 10, ground := Ground.phase }, { on := 11, ground := Ground.phase }, { on := 12, ground := Ground.phase }, { on := 13, ground := Ground.textOnly Departure.lateStores }, { on := 14, ground := Ground.textOnly Departure.lateStores }, { on := 15, ground := Ground.phase }], guard := none }) rfl (fun K hK => ?_) AllReadyH.nil
          · skip
            (have hq_ := hHeld; (try dsimp only at hq_))
            obtain ⟨PG_7q, PG_7q', PL_7q, PL_7q', hF_7q⟩ := hq_
            go_simp
            obtain ⟨NB7, NB7'⟩ : Row (u6.setRow u1.heap.size R') u1.heap.size R' := Row.setRow NB6
            refine hK.out _ _ ?_ (fun hHeld => ?_)
            · exact ⟨isRow_setRow PG_7q, (rowAt_setRow_other (by assumption)).trans PG_7q', isRow_setRow PL_7q, (rowAt_setRow_other (by assumption)).trans PL_7q', below_setRow hF_7q (by assumption) _⟩
            clear hK K
            try simp only [Act.put, List.setIfInBounds_toArray, List.set_cons_zero, List.set_cons_succ]
            refine wpAnyH_take (i := 17) (oi := { dst := some 6, op := Op.assign (Operand.tmp 22), type := 3, pos := "ref.go:49", after := #[{ on := 13, ground := Ground.data }, { on := 16, ground := Ground.chain }, { on := 0, ground := Ground.phase }, { on := 1, ground := Ground.phase }, { on := 2, ground := Ground.phase }, { on := 3, ground := Ground.phase }, { on := 4, ground := Ground.phase }, { on := 5, ground := Ground.phase }, { on := 6, ground := Ground.phase }, { on := 7, ground := Ground.phase }, { on := 8, ground := Ground.phase }, { on := 9, ground := Ground.phase }, { on := 10, ground := Ground.phase }, { on := 11, ground := Ground.phase }, { on := 12, ground := Ground.phase }, { on := 13, ground := Ground.phase }, { on := 14, ground := Ground.textOnly Departure.lateStores }, { on := 15, ground := Ground.phase }, { on := 16, ground := Ground.phase }], guard := none }) (v := ?_) rfl (by kernel_rfl) (by kernel_rfl) (by kernel_rfl) (fun _ _ _ h => h) (Or.inl ⟨by rfl, ?_⟩) (by assumption) ?_
            rotate_left
            · (intro w_ hS_; (try dsimp only at hS_); go_simp; try with_reducible rfl)
            try simp only [Act.put, List.setIfInBounds_toArray, List.set_cons_zero, List.set_cons_succ]
            refine wpAnyH_take (i := 18) (oi := { dst := some 7, op := Op.assign (Operand.tmp 23), type := 4, pos := "ref.go:49", after := #[{ on := 14, ground := Ground.data }, { on := 17, ground := Ground.chain }, { on := 0, ground := Ground.phase }, { on := 1, ground := Ground.phase }, { on := 2, ground := Ground.phase }, { on := 3, ground := Ground.phase }, { on := 4, ground := Ground.phase }, { on := 5, ground := Ground.phase }, { on := 6, ground := Ground.phase }, { on := 7, ground := Ground.phase }, { on := 8, ground := Ground.phase }, { on := 9, ground := Ground.phase }, { on := 10, ground := Ground.phase }, { on := 11, ground := Ground.phase }, { on := 12, ground := Ground.phase }, { on := 13, ground := Ground.phase }, { on := 14, ground := Ground.phase }, { on := 15, ground := Ground.phase }, { on := 16, ground := Ground.phase }, { on := 17, ground := Ground.phase }], guard := none }) (v := ?_) rfl (by kernel_rfl) (by kernel_rfl) (by kernel_rfl) (fun _ _ _ h => h) (Or.inl ⟨by rfl, ?_⟩) (by assumption) ?_
            rotate_left
            · (intro w_ hS_; (try dsimp only at hS_); go_simp; try with_reducible rfl)
            try simp only [Act.put, List.setIfInBounds_toArray, List.set_cons_zero, List.set_cons_succ]
            refine wpAnyH_done (by kernel_rfl) ?_ _
            (have hq_ := hHeld; (try dsimp only at hq_))
            obtain ⟨PG_7e, PG_7e', PL_7e, PL_7e', hF_7e⟩ := hq_
            have hF := hF_7e
            (go_wp2_with fail; go_meet; exact ⟨u1.heap.size, rfl, rfl, rfl, by assumption, ⟨NB7, NB7'⟩, ⟨by assumption, by assumption⟩, ⟨by assumption, by assumption⟩, hF⟩)
    · skip
      (have hq_ := hHeld; (try dsimp only at hq_))
      obtain ⟨PG_8q, PG_8q', PL_8q, PL_8q', hF_8q⟩ := hq_
      go_simp
      obtain ⟨NB8, NB8'⟩ : Row (w.drew.alloc (.cells (RC 0 0 0 false false false fun _ => false) 107)) w.heap.size (RC 0 0 0 false false false fun _ => false) := Row.new _ _ _
      have nb_G_8 : ¬ g = w.heap.size := by have := isRow.lt PG_8q; (try simp only [size_drew_] at this); omega
      have bn_G_8 : ¬ w.heap.size = g := by omega
      have nb_L_8 : ¬ bl = w.heap.size := by have := isRow.lt PL_8q; (try simp only [size_drew_] at this); omega
      have bn_L_8 : ¬ w.heap.size = bl := by omega
      have hz_8 : w.heap.size ≤ w.heap.size := hF_8q.size
      refine hK.out _ _ ?_ (fun hHeld => ?_)
      · exact ⟨isRow_alloc PG_8q, (rowAt_alloc PG_8q).trans PG_8q', isRow_alloc PL_8q, (rowAt_alloc PL_8q).trans PL_8q', hF_8q.alloc hz_8 _⟩
      clear hK K
      try simp only [Act.put, List.setIfInBounds_toArray, List.set_cons_zero, List.set_cons_succ]
      refine wpAnyH_ready (rs := [8]) (by kernel_rfl) (by simp) ?_
      refine AllReadyH.cons (o := { dst := some 18, op := Op.call { callee := Callee.value (Operand.func 58), args := #[Operand.tmp 17], argTypes := #[22] }, type := 47, pos := "ref.go:49", after := #[{ on := 7, ground := Ground.data }], guard := none }) rfl (fun K hK => ?_) AllReadyH.nil
      · skip
        (have hq_ := hHeld; (try dsimp only at hq_))
        obtain ⟨PG_9q, PG_9q', PL_9q, PL_9q', hF_9q⟩ := hq_
        go_simp
        refine (HB.out _ (by assumption) (by assumption)).mono ?_
        rintro e u9 ⟨rfl, hb⟩
        obtain ⟨NB9, NB9'⟩ := Row.step NB8 NB8' hb
        refine hK.out _ _ ?_ (fun hHeld => ?_)
        · exact ⟨rk1 PG_9q hb, rk2 PG_9q PG_9q' hb, rk1 PL_9q hb, rk2 PL_9q PL_9q' hb, bk hF_9q hF_9q.size hb⟩
        clear hK K
        try simp only [Act.put, List.setIfInBounds_toArray, List.set_cons_zero, List.set_cons_succ]
        refine wpAnyH_ready (rs := [10]) (by kernel_rfl) (by simp) ?_
        refine AllReadyH.cons (o := { dst := some 20, op := Op.call { callee := Callee.value (Operand.func 92), args := #[Operand.tmp 13, Operand.tmp 18, Operand.tmp 19], argTypes := #[107, 47, 3] }, type := 139, pos := "ref.go:49", after := #[{ on := 3, ground := Ground.data }, { on := 8, ground := Ground.data }, { on := 9, ground := Ground.data }, { on := 8, ground := Ground.chain }], guard := none }) rfl (fun K hK => ?_) AllReadyH.nil
        · skip
          (have hq_ := hHeld; (try dsimp only at hq_))
          obtain ⟨PG_10q, PG_10q', PL_10q, PL_10q', hF_10q⟩ := hq_
          go_simp
          refine (HT.out _).mono ?_
          rintro e u10 ⟨rfl, hb⟩
          obtain ⟨NB10, NB10'⟩ := Row.step NB9 NB9' hb
          refine hK.out _ _ ?_ (fun hHeld => ?_)
          · exact ⟨rk1 PG_10q hb, rk2 PG_10q PG_10q' hb, rk1 PL_10q hb, rk2 PL_10q PL_10q' hb, bk hF_10q hF_10q.size hb⟩
          clear hK K
          try simp only [Act.put, List.setIfInBounds_toArray, List.set_cons_zero, List.set_cons_succ]
          refine wpAnyH_take (i := 11) (oi := { dst := some 9, op := Op.move (Operand.tmp 20), type := 139, pos := "ref.go:49", after := #[{ on := 10, ground := Ground.data }], guard := none }) (v := ?_) rfl (by kernel_rfl) (by kernel_rfl) (by kernel_rfl) (fun _ _ _ h => h) (Or.inl ⟨by rfl, ?_⟩) (by assumption) ?_
          rotate_left
          · (intro w_ hS_; (try dsimp only at hS_); go_simp; try with_reducible rfl)
          try simp only [Act.put, List.setIfInBounds_toArray, List.set_cons_zero, List.set_cons_succ]
          refine wpAnyH_take (i := 12) (oi := { dst := some 21, op := Op.extract (Operand.tmp 9) 0, type := 107, pos := "ref.go:49", after := #[{ on := 11, ground := Ground.data }], guard := none }) (v := ?_) rfl (by kernel_rfl) (by kernel_rfl) (by kernel_rfl) (fun _ _ _ h => h) (Or.inl ⟨by rfl, ?_⟩) (by assumption) ?_
          rotate_left
          · (intro w_ hS_; (try dsimp only at hS_); go_simp; try with_reducible rfl)
          try simp only [Act.put, List.setIfInBounds_toArray, List.set_cons_zero, List.set_cons_succ]
          refine wpAnyH_take (i := 13) (oi := { dst := some 22, op := Op.extract (Operand.tmp 9) 1, type := 3, pos := "ref.go:49", after := #[{ on := 11, ground := Ground.data }, { on := 16, ground := Ground.gcOnly Departure.lateStores }], guard := none }) (v := ?_) rfl (by kernel_rfl) (by kernel_rfl) (by kernel_rfl) (fun _ _ _ h => h) (Or.inl ⟨by rfl, ?_⟩) (by assumption) ?_
          rotate_left
          · (intro w_ hS_; (try dsimp only at hS_); go_simp; try with_reducible rfl)
          try simp only [Act.put, List.setIfInBounds_toArray, List.set_cons_zero, List.set_cons_succ]
          refine wpAnyH_take (i := 14) (oi := { dst := some 23, op := Op.extract (Operand.tmp 9) 2, type := 4, pos := "ref.go:49", after := #[{ on := 11, ground := Ground.data }, { on := 17, ground := Ground.gcOnly Departure.lateStores }], guard := none }) (v := ?_) rfl (by kernel_rfl) (by kernel_rfl) (by kernel_rfl) (fun _ _ _ h => h) (Or.inl ⟨by rfl, ?_⟩) (by assumption) ?_
          rotate_left
          · (intro w_ hS_; (try dsimp only at hS_); go_simp; try with_reducible rfl)
          try simp only [Act.put, List.setIfInBounds_toArray, List.set_cons_zero, List.set_cons_succ]
          refine wpAnyH_ready (rs := [16]) (by kernel_rfl) (by simp) ?_
          refine AllReadyH.cons (o := { dst := none, op := Op.store 107 (Operand.tmp 5) (Operand.tmp 21), type := 0, pos := "ref.go:49", after := #[{ on := 15, ground := Ground.data }, { on := 12, ground := Ground.data }, { on := 10, ground := Ground.chain }, { on := 0, ground := Ground.phase }, { on := 1, ground := Ground.phase }, { on := 2, ground := Ground.phase }, { on := 3, ground := Ground.phase }, { on := 4, ground := Ground.phase }, { on := 5, ground := Ground.phase }, { on := 6, ground := Ground.phase }, { on := 7, ground := Ground.phase }, { on := 8, ground := Ground.phase }, { on := 9, ground := Ground.phase }, { on := 10, ground := Ground.phase }, { on := 11, ground := Ground.phase }, { on := 12, ground := Ground.phase }, { on := 13, ground := Ground.textOnly Departure.lateStores }, { on := 14, ground := Ground.textOnly Departure.lateStores }, { on := 15, ground := Ground.phase }], guard := none }) rfl (fun K hK => ?_) AllReadyH.nil
          · skip
            (have hq_ := hHeld; (try dsimp only at hq_))
            obtain ⟨PG_11q, PG_11q', PL_11q, PL_11q', hF_11q⟩ := hq_
            go_simp
            obtain ⟨NB11, NB11'⟩ : Row (u10.setRow w.heap.size R') w.heap.size R' := Row.setRow NB10
            refine hK.out _ _ ?_ (fun hHeld => ?_)
            · exact ⟨isRow_setRow PG_11q, (rowAt_setRow_other (by assumption)).trans PG_11q', isRow_setRow PL_11q, (rowAt_setRow_other (by assumption)).trans PL_11q', below_setRow hF_11q (by assumption) _⟩
            clear hK K
            try simp only [Act.put, List.setIfInBounds_toArray, List.set_cons_zero, List.set_cons_succ]
            refine wpAnyH_take (i := 17) (oi := { dst := some 6, op := Op.assign (Operand.tmp 22), type := 3, pos := "ref.go:49", after := #[{ on := 13, ground := Ground.data }, { on := 16, ground := Ground.chain }, { on := 0, ground := Ground.phase }, { on := 1, ground := Ground.phase }, { on := 2, ground := Ground.phase }, { on := 3, ground := Ground.phase }, { on := 4, ground := Ground.phase }, { on := 5, ground := Ground.phase }, { on := 6, ground := Ground.phase }, { on := 7, ground := Ground.phase }, { on := 8, ground := Ground.phase }, { on := 9, ground := Ground.phase }, { on := 10, ground := Ground.phase }, { on := 11, ground := Ground.phase }, { on := 12, ground := Ground.phase }, { on := 13, ground := Ground.phase }, { on := 14, ground := Ground.textOnly Departure.lateStores }, { on := 15, ground := Ground.phase }, { on := 16, ground := Ground.phase }], guard := none }) (v := ?_) rfl (by kernel_rfl) (by kernel_rfl) (by kernel_rfl) (fun _ _ _ h => h) (Or.inl ⟨by rfl, ?_⟩) (by assumption) ?_
            rotate_left
            · (intro w_ hS_; (try dsimp only at hS_); go_simp; try with_reducible rfl)
            try simp only [Act.put, List.setIfInBounds_toArray, List.set_cons_zero, List.set_cons_succ]
            refine wpAnyH_take (i := 18) (oi := { dst := some 7, op := Op.assign (Operand.tmp 23), type := 4, pos := "ref.go:49", after := #[{ on := 14, ground := Ground.data }, { on := 17, ground := Ground.chain }, { on := 0, ground := Ground.phase }, { on := 1, ground := Ground.phase }, { on := 2, ground := Ground.phase }, { on := 3, ground := Ground.phase }, { on := 4, ground := Ground.phase }, { on := 5, ground := Ground.phase }, { on := 6, ground := Ground.phase }, { on := 7, ground := Ground.phase }, { on := 8, ground := Ground.phase }, { on := 9, ground := Ground.phase }, { on := 10, ground := Ground.phase }, { on := 11, ground := Ground.phase }, { on := 12, ground := Ground.phase }, { on := 13, ground := Ground.phase }, { on := 14, ground := Ground.phase }, { on := 15, ground := Ground.phase }, { on := 16, ground := Ground.phase }, { on := 17, ground := Ground.phase }], guard := none }) (v := ?_) rfl (by kernel_rfl) (by kernel_rfl) (by kernel_rfl) (fun _ _ _ h => h) (Or.inl ⟨by rfl, ?_⟩) (by assumption) ?_
            rotate_left
            · (intro w_ hS_; (try dsimp only at hS_); go_simp; try with_reducible rfl)
            try simp only [Act.put, List.setIfInBounds_toArray, List.set_cons_zero, List.set_cons_succ]
            refine wpAnyH_done (by kernel_rfl) ?_ _
            (have hq_ := hHeld; (try dsimp only at hq_))
            obtain ⟨PG_11e, PG_11e', PL_11e, PL_11e', hF_11e⟩ := hq_
            have hF := hF_11e
            (go_wp2_with fail; go_meet; exact ⟨w.heap.size, rfl, rfl, rfl, by assumption, ⟨NB11, NB11'⟩, ⟨by assumption, by assumption⟩, ⟨by assumption, by assumption⟩, hF⟩)
  case rest =>
    obtain ⟨B, rfl, rfl, rfl, hB, ⟨B1, B1'⟩, ⟨G1, G1'⟩, ⟨L1, L1'⟩, hX0⟩ := hcut
    have hX : Aside2 g bl w wc := .of_below hX0
    have lg := hr.lt
    have ll := hl.lt
    have nb1 : ¬ g = B := by omega
    have nb2 : ¬ B = g := by omega
    have nb3 : ¬ bl = B := by omega
    have nb4 : ¬ B = bl := by omega
    clear hr hr' hl hl' hB0 hX0
    go_wp2
    go_ret
    exact ⟨rfl, ⟨by go_simp, by go_simp⟩, ⟨by go_simp, by go_simp⟩, by go_simp⟩
set_option maxRecDepth 100000 in
set_option maxHeartbeats 4000000 in
theorem rack_lo (g bl : Nat) (R R' : Array Value) (hR : R.size = 70) (hR' : R'.size = 70) (hO : AllOne R') (n : Nat) (C : Array Value) (lost id pr gr : Int) (is : Bool) (gp : Int) (w : World) (hr : isRow w g) (hr' : rowAt w g = (RV R (.slice (some ⟨bl, 0, none⟩) n n) (.int .i64 lost))) (hl : isRow w bl) (hl' : rowAt w bl = C) (hne : ¬ g = bl) (hne' : ¬ bl = g) (k : Nat) (hk : k < n) (hid : ¬ 8192 ≤ id) (st : Int) (c0 : C[k * 7]? = some (.int .i64 st)) (HF : Hid (∀ W : World, isRow W bl → rowAt W bl = C → Calls Try.prog 93 #[.slice (some ⟨bl, 0, none⟩) n n, .int .i64 id] W fun e w' => e = .returned (.int .i64 (k : Int)) ∧ Below W.heap.size W w'))
    (HB : Hid (∀ W : World, isRow W bl → rowAt W bl = C → Calls Try.prog 58 #[.slice (some ⟨bl, 0, none⟩) n n] W fun e w' => e = .returned (.agg #[.int .i64 id, .int .i64 pr, .int .i64 gr, .bool is]) ∧ Below W.heap.size W w'))
    (HT : Hid (∀ W : World, Calls Try.prog 92 #[.agg R, .agg #[.int .i64 id, .int .i64 pr, .int .i64 gr, .bool is], .int .i64 gp] W fun e w' => e = .returned (.tuple #[.agg R', .int .i64 id, .bool true]) ∧ Below W.heap.size W w')) :
    Calls Try.prog 84 #[.pointer (some ⟨g, 0, none⟩), .int .i64 gp] w fun e w' => e = .returned (.int .i64 id) ∧ Row w' g (RV R' (.slice (some ⟨bl, 0, none⟩) n n) (.int .i64 lost)) ∧ Row w' bl (C.setIfInBounds (k * 7) (.int .i64 2)) ∧ Aside2 g bl w w' := by
  have _u : True := by have _ := hne; have _ := hne'; trivial
  clear _u
  have hB0 : Below w.heap.size w w := Below.refl _ _
  have k1 : (0 : Int) ≤ (k : Int) := by omega
  have k2 : (k : Int) < (n : Int) := by omega
  have _v := hk
  clear _v
  go_enter Try.func84, Try.ntmps84
  go_upto_region 1 with fail
  go_cut [5, 6, 7] (fun s5 s6 s7 wx => ∃ B : Nat, s5 = .pointer (some ⟨B, 0, none⟩) ∧ s6 = .int .i64 id ∧ s7 = .bool true ∧ w.heap.size ≤ B ∧ Row wx B R' ∧ Row wx g (RV R (.slice (some ⟨bl, 0, none⟩) n n) (.int .i64 lost)) ∧ Row wx bl C ∧ Below w.heap.size w wx)
  case first =>
    have hB_0 : Below w.heap.size w w := Below.refl _ _
    refine wp_region_held_drew (S := fun w' => isRow w' g ∧ rowAt w' g = (RV R (.slice (some ⟨bl, 0, none⟩) n n) (.int .i64 lost)) ∧ isRow w' bl ∧ rowAt w' bl = C ∧ Below w.heap.size w w') (by kernel_rfl) ⟨hr, hr', hl, hl', below_drew0 hB_0⟩ (fun hHeld => ?_)
    refine wpAnyH_take (i := 0) (oi := { dst := some 10, op := Op.move (Operand.tmp 0), type := 75, pos := "ref.go:49", after := #[], guard := none }) (v := ?_) rfl (by kernel_rfl) (by kernel_rfl) (by kernel_rfl) (fun _ _ _ h => h) (Or.inl ⟨by rfl, ?_⟩) (by assumption) ?_
    rotate_left
    · (intro w_ hS_; (try dsimp only at hS_); go_simp; try with_reducible rfl)
    try simp only [Act.put, List.setIfInBounds_toArray, List.set_cons_zero, List.set_cons_succ]
    refine wpAnyH_take (i := 1) (oi := { dst := some 11, op := Op.nilCheck (Operand.tmp 10), type := 0, pos := "ref.go:49", after := #[{ on := 0, ground := Ground.data }], guard := none }) (v := ?_) rfl (by kernel_rfl) (by kernel_rfl) (by kernel_rfl) (fun _ _ _ h => h) (Or.inl ⟨by rfl, ?_⟩) (by assumption) ?_
    rotate_left
    · (intro w_ hS_; (try dsimp only at hS_); go_simp; try with_reducible rfl)
    try simp only [Act.put, List.setIfInBounds_toArray, List.set_cons_zero, List.set_cons_succ]
    refine wpAnyH_take (i := 2) (oi := { dst := some 12, op := Op.fieldAddr 110 (Operand.tmp 11) 0, type := 0, pos := "ref.go:49", after := #[{ on := 1, ground := Ground.data }], guard := none }) (v := ?_) rfl (by kernel_rfl) (by kernel_rfl) (by kernel_rfl) (fun _ _ _ h => h) (Or.inl ⟨by rfl, ?_⟩) (by assumption) ?_
    rotate_left
    · (intro w_ hS_; (try dsimp only at hS_); go_simp; try with_reducible rfl)
    try simp only [Act.put, List.setIfInBounds_toArray, List.set_cons_zero, List.set_cons_succ]
    refine wpAnyH_take (i := 3) (oi := { dst := some 13, op := Op.load 107 (Operand.tmp 12), type := 107, pos := "ref.go:49", after := #[{ on := 2, ground := Ground.data }], guard := none }) (v := ?_) rfl (by kernel_rfl) (by kernel_rfl) (by kernel_rfl) (fun _ _ _ h => h) (Or.inl ⟨by rfl, ?_⟩) (by assumption) ?_
    rotate_left
    · (intro w_ hS_; (try dsimp only at hS_); go_simp; try with_reducible rfl)
    try simp only [Act.put, List.setIfInBounds_toArray, List.set_cons_zero, List.set_cons_succ]
    refine wpAnyH_take (i := 4) (oi := { dst := some 14, op := Op.move (Operand.tmp 0), type := 75, pos := "ref.go:49", after := #[], guard := none }) (v := ?_) rfl (by kernel_rfl) (by kernel_rfl) (by kernel_rfl) (fun _ _ _ h => h) (Or.inl ⟨by rfl, ?_⟩) (by assumption) ?_
    rotate_left
    · (intro w_ hS_; (try dsimp only at hS_); go_simp; try with_reducible rfl)
    try simp only [Act.put, List.setIfInBounds_toArray, List.set_cons_zero, List.set_cons_succ]
    refine wpAnyH_take (i := 5) (oi := { dst := some 15, op := Op.nilCheck (Operand.tmp 14), type := 0, pos := "ref.go:49", after := #[{ on := 4, ground := Ground.data }], guard := none }) (v := ?_) rfl (by kernel_rfl) (by kernel_rfl) (by kernel_rfl) (fun _ _ _ h => h) (Or.inl ⟨by rfl, ?_⟩) (by assumption) ?_
    rotate_left
    · (intro w_ hS_; (try dsimp only at hS_); go_simp; try with_reducible rfl)
    try simp only [Act.put, List.setIfInBounds_toArray, List.set_cons_zero, List.set_cons_succ]
    refine wpAnyH_take (i := 6) (oi := { dst := some 16, op := Op.fieldAddr 110 (Operand.tmp 15) 1, type := 0, pos := "ref.go:49", after := #[{ on := 5, ground := Ground.data }], guard := none }) (v := ?_) rfl (by kernel_rfl) (by kernel_rfl) (by kernel_rfl) (fun _ _ _ h => h) (Or.inl ⟨by rfl, ?_⟩) (by assumption) ?_
    rotate_left
    · (intro w_ hS_; (try dsimp only at hS_); go_simp; try with_reducible rfl)
    try simp only [Act.put, List.setIfInBounds_toArray, List.set_cons_zero, List.set_cons_succ]
    refine wpAnyH_take (i := 7) (oi := { dst := some 17, op := Op.load 22 (Operand.tmp 16), type := 22, pos := "ref.go:49", after := #[{ on := 6, ground := Ground.data }], guard := none }) (v := ?_) rfl (by kernel_rfl) (by kernel_rfl) (by kernel_rfl) (fun _ _ _ h => h) (Or.inl ⟨by rfl, ?_⟩) (by assumption) ?_
    rotate_left
    · (intro w_ hS_; (try dsimp only at hS_); go_simp; try with_reducible rfl)
    try simp only [Act.put, List.setIfInBounds_toArray, List.set_cons_zero, List.set_cons_succ]
    refine wpAnyH_take (i := 9) (oi := { dst := some 19, op := Op.move (Operand.tmp 1), type := 3, pos := "ref.go:49", after := #[], guard := none }) (v := ?_) rfl (by kernel_rfl) (by kernel_rfl) (by kernel_rfl) (fun _ _ _ h => h) (Or.inl ⟨by rfl, ?_⟩) (by assumption) ?_
    rotate_left
    · (intro w_ hS_; (try dsimp only at hS_); go_simp; try with_reducible rfl)
    try simp only [Act.put, List.setIfInBounds_toArray, List.set_cons_zero, List.set_cons_succ]
    refine wpAnyH_ready (rs := [8, 15]) (by kernel_rfl) (by simp) ?_
    refine AllReadyH.cons (o := { dst := some 18, op := Op.call { callee := Callee.value (Operand.func 58), args := #[Operand.tmp 17], argTypes := #[22] }, type := 47, pos := "ref.go:49", after := #[{ on := 7, ground := Ground.data }], guard := none }) rfl (fun K hK => ?_) (AllReadyH.cons (o := { dst := some 5, op := Op.alloc 107, type := 0, pos := "ref.go:49", after := #[], guard := none }) rfl (fun K hK => ?_) AllReadyH.nil)
    · skip
      (have hq_ := hHeld; (try dsimp only at hq_))
      obtain ⟨PG_1q, PG_1q', PL_1q, PL_1q', hF_1q⟩ := hq_
      go_simp
      refine (HB.out _ (by assumption) (by assumption)).mono ?_
      rintro e u1 ⟨rfl, hb⟩
      refine hK.out _ _ ?_ (fun hHeld => ?_)
      · exact ⟨rk1 PG_1q hb, rk2 PG_1q PG_1q' hb, rk1 PL_1q hb, rk2 PL_1q PL_1q' hb, bk hF_1q hF_1q.size hb⟩
      clear hK K
      try simp only [Act.put, List.setIfInBounds_toArray, List.set_cons_zero, List.set_cons_succ]
      refine wpAnyH_ready (rs := [10, 15]) (by kernel_rfl) (by simp) ?_
      refine AllReadyH.cons (o := { dst := some 20, op := Op.call { callee := Callee.value (Operand.func 92), args := #[Operand.tmp 13, Operand.tmp 18, Operand.tmp 19], argTypes := #[107, 47, 3] }, type := 139, pos := "ref.go:49", after := #[{ on := 3, ground := Ground.data }, { on := 8, ground := Ground.data }, { on := 9, ground := Ground.data }, { on := 8, ground := Ground.chain }], guard := none }) rfl (fun K hK => ?_) (AllReadyH.cons (o := { dst := some 5, op := Op.alloc 107, type := 0, pos := "ref.go:49", after := #[], guard := none }) rfl (fun K hK => ?_) AllReadyH.nil)
      · skip
        (have hq_ := hHeld; (try dsimp only at hq_))
        obtain ⟨PG_2q, PG_2q', PL_2q, PL_2q', hF_2q⟩ := hq_
        go_simp
        refine (HT.out _).mono ?_
        rintro e u2 ⟨rfl, hb⟩
        refine hK.out _ _ ?_ (fun hHeld => ?_)
        · exact ⟨rk1 PG_2q hb, rk2 PG_2q PG_2q' hb, rk1 PL_2q hb, rk2 PL_2q PL_2q' hb, bk hF_2q hF_2q.size hb⟩
        clear hK K
        try simp only [Act.put, List.setIfInBounds_toArray, List.set_cons_zero, List.set_cons_succ]
        refine wpAnyH_take (i := 11) (oi := { dst := some 9, op := Op.move (Operand.tmp 20), type := 139, pos := "ref.go:49", after := #[{ on := 10, ground := Ground.data }], guard := none }) (v := ?_) rfl (by kernel_rfl) (by kernel_rfl) (by kernel_rfl) (fun _ _ _ h => h) (Or.inl ⟨by rfl, ?_⟩) (by assumption) ?_
        rotate_left
        · (intro w_ hS_; (try dsimp only at hS_); go_simp; try with_reducible rfl)
        try simp only [Act.put, List.setIfInBounds_toArray, List.set_cons_zero, List.set_cons_succ]
        refine wpAnyH_take (i := 12) (oi := { dst := some 21, op := Op.extract (Operand.tmp 9) 0, type := 107, pos := "ref.go:49", after := #[{ on := 11, ground := Ground.data }], guard := none }) (v := ?_) rfl (by kernel_rfl) (by kernel_rfl) (by kernel_rfl) (fun _ _ _ h => h) (Or.inl ⟨by rfl, ?_⟩) (by assumption) ?_
        rotate_left
        · (intro w_ hS_; (try dsimp only at hS_); go_simp; try with_reducible rfl)
        try simp only [Act.put, List.setIfInBounds_toArray, List.set_cons_zero, List.set_cons_succ]
        refine wpAnyH_take (i := 13) (oi := { dst := some 22, op := Op.extract (Operand.tmp 9) 1, type := 3, pos := "ref.go:49", after := #[{ on := 11, ground := Ground.data }, { on := 16, ground := Ground.gcOnly Departure.lateStores }], guard := none }) (v := ?_) rfl (by kernel_rfl) (by kernel_rfl) (by kernel_rfl) (fun _ _ _ h => h) (Or.inl ⟨by rfl, ?_⟩) (by assumption) ?_
        rotate_left
        · (intro w_ hS_; (try dsimp only at hS_); go_simp; try with_reducible rfl)
        try simp only [Act.put, List.setIfInBounds_toArray, List.set_cons_zero, List.set_cons_succ]
        refine wpAnyH_take (i := 14) (oi := { dst := some 23, op := Op.extract (Operand.tmp 9) 2, type := 4, pos := "ref.go:49", after := #[{ on := 11, ground := Ground.data }, { on := 17, ground := Ground.gcOnly Departure.lateStores }], guard := none }) (v := ?_) rfl (by kernel_rfl) (by kernel_rfl) (by kernel_rfl) (fun _ _ _ h => h) (Or.inl ⟨by rfl, ?_⟩) (by assumption) ?_
        rotate_left
        · (intro w_ hS_; (try dsimp only at hS_); go_simp; try with_reducible rfl)
        try simp only [Act.put, List.setIfInBounds_toArray, List.set_cons_zero, List.set_cons_succ]
        refine wpAnyH_ready (rs := [15]) (by kernel_rfl) (by simp) ?_
        refine AllReadyH.cons (o := { dst := some 5, op := Op.alloc 107, type := 0, pos := "ref.go:49", after := #[], guard := none }) rfl (fun K hK => ?_) AllReadyH.nil
        · skip
          (have hq_ := hHeld; (try dsimp only at hq_))
          obtain ⟨PG_3q, PG_3q', PL_3q, PL_3q', hF_3q⟩ := hq_
          go_simp
          obtain ⟨NB3, NB3'⟩ : Row (u2.alloc (.cells (RC 0 0 0 false false false fun _ => false) 107)) u2.heap.size (RC 0 0 0 false false false fun _ => false) := Row.new _ _ _
          have nb_G_3 : ¬ g = u2.heap.size := by have := isRow.lt PG_3q; (try simp only [size_drew_] at this); omega
          have bn_G_3 : ¬ u2.heap.size = g := by omega
          have nb_L_3 : ¬ bl = u2.heap.size := by have := isRow.lt PL_3q; (try simp only [size_drew_] at this); omega
          have bn_L_3 : ¬ u2.heap.size = bl := by omega
          have hz_3 : w.heap.size ≤ u2.heap.size := hF_3q.size
          refine hK.out _ _ ?_ (fun hHeld => ?_)
          · exact ⟨isRow_alloc PG_3q, (rowAt_alloc PG_3q).trans PG_3q', isRow_alloc PL_3q, (rowAt_alloc PL_3q).trans PL_3q', hF_3q.alloc hz_3 _⟩
          clear hK K
          try simp only [Act.put, List.setIfInBounds_toArray, List.set_cons_zero, List.set_cons_succ]
          refine wpAnyH_ready (rs := [16]) (by kernel_rfl) (by simp) ?_
          refine AllReadyH.cons (o := { dst := none, op := Op.store 107 (Operand.tmp 5) (Operand.tmp 21), type := 0, pos := "ref.go:49", after := #[{ on := 15, ground := Ground.data }, { on := 12, ground := Ground.data }, { on := 10, ground := Ground.chain }, { on := 0, ground := Ground.phase }, { on := 1, ground := Ground.phase }, { on := 2, ground := Ground.phase }, { on := 3, ground := Ground.phase }, { on := 4, ground := Ground.phase }, { on := 5, ground := Ground.phase }, { on := 6, ground := Ground.phase }, { on := 7, ground := Ground.phase }, { on := 8, ground := Ground.phase }, { on := 9, ground := Ground.phase }, { on := 10, ground := Ground.phase }, { on := 11, ground := Ground.phase }, { on := 12, ground := Ground.phase }, { on := 13, ground := Ground.textOnly Departure.lateStores }, { on := 14, ground := Ground.textOnly Departure.lateStores }, { on := 15, ground := Ground.phase }], guard := none }) rfl (fun K hK => ?_) AllReadyH.nil
          · skip
            (have hq_ := hHeld; (try dsimp only at hq_))
            obtain ⟨PG_4q, PG_4q', PL_4q, PL_4q', hF_4q⟩ := hq_
            go_simp
            obtain ⟨NB4, NB4'⟩ : Row ((u2.alloc (.cells (RC 0 0 0 false false false fun _ => false) 107)).setRow u2.heap.size R') u2.heap.size R' := Row.setRow NB3
            refine hK.out _ _ ?_ (fun hHeld => ?_)
            · exact ⟨isRow_setRow PG_4q, (rowAt_setRow_other (by assumption)).trans PG_4q', isRow_setRow PL_4q, (rowAt_setRow_other (by assumption)).trans PL_4q', below_setRow hF_4q (by assumption) _⟩
            clear hK K
            try simp only [Act.put, List.setIfInBounds_toArray, List.set_cons_zero, List.set_cons_succ]
            refine wpAnyH_take (i := 17) (oi := { dst := some 6, op := Op.assign (Operand.tmp 22), type := 3, pos := "ref.go:49", after := #[{ on := 13, ground := Ground.data }, { on := 16, ground := Ground.chain }, { on := 0, ground := Ground.phase }, { on := 1, ground := Ground.phase }, { on := 2, ground := Ground.phase }, { on := 3, ground := Ground.phase }, { on := 4, ground := Ground.phase }, { on := 5, ground := Ground.phase }, { on := 6, ground := Ground.phase }, { on := 7, ground := Ground.phase }, { on := 8, ground := Ground.phase }, { on := 9, ground := Ground.phase }, { on := 10, ground := Ground.phase }, { on := 11, ground := Ground.phase }, { on := 12, ground := Ground.phase }, { on := 13, ground := Ground.phase }, { on := 14, ground := Ground.textOnly Departure.lateStores }, { on := 15, ground := Ground.phase }, { on := 16, ground := Ground.phase }], guard := none }) (v := ?_) rfl (by kernel_rfl) (by kernel_rfl) (by kernel_rfl) (fun _ _ _ h => h) (Or.inl ⟨by rfl, ?_⟩) (by assumption) ?_
            rotate_left
            · (intro w_ hS_; (try dsimp only at hS_); go_simp; try with_reducible rfl)
            try simp only [Act.put, List.setIfInBounds_toArray, List.set_cons_zero, List.set_cons_succ]
            refine wpAnyH_take (i := 18) (oi := { dst := some 7, op := Op.assign (Operand.tmp 23), type := 4, pos := "ref.go:49", after := #[{ on := 14, ground := Ground.data }, { on := 17, ground := Ground.chain }, { on := 0, ground := Ground.phase }, { on := 1, ground := Ground.phase }, { on := 2, ground := Ground.phase }, { on := 3, ground := Ground.phase }, { on := 4, ground := Ground.phase }, { on := 5, ground := Ground.phase }, { on := 6, ground := Ground.phase }, { on := 7, ground := Ground.phase }, { on := 8, ground := Ground.phase }, { on := 9, ground := Ground.phase }, { on := 10, ground := Ground.phase }, { on := 11, ground := Ground.phase }, { on := 12, ground := Ground.phase }, { on := 13, ground := Ground.phase }, { on := 14, ground := Ground.phase }, { on := 15, ground := Ground.phase }, { on := 16, ground := Ground.phase }, { on := 17, ground := Ground.phase }], guard := none }) (v := ?_) rfl (by kernel_rfl) (by kernel_rfl) (by kernel_rfl) (fun _ _ _ h => h) (Or.inl ⟨by rfl, ?_⟩) (by assumption) ?_
            rotate_left
            · (intro w_ hS_; (try dsimp only at hS_); go_simp; try with_reducible rfl)
            try simp only [Act.put, List.setIfInBounds_toArray, List.set_cons_zero, List.set_cons_succ]
            refine wpAnyH_done (by kernel_rfl) ?_ _
            (have hq_ := hHeld; (try dsimp only at hq_))
            obtain ⟨PG_4e, PG_4e', PL_4e, PL_4e', hF_4e⟩ := hq_
            have hF := hF_4e
            (go_wp2_with fail; go_meet; exact ⟨u2.heap.size, rfl, rfl, rfl, by assumption, ⟨NB4, NB4'⟩, ⟨by assumption, by assumption⟩, ⟨by assumption, by assumption⟩, hF⟩)
      · skip
        (have hq_ := hHeld; (try dsimp only at hq_))
        obtain ⟨PG_5q, PG_5q', PL_5q, PL_5q', hF_5q⟩ := hq_
        go_simp
        obtain ⟨NB5, NB5'⟩ : Row (u1.alloc (.cells (RC 0 0 0 false false false fun _ => false) 107)) u1.heap.size (RC 0 0 0 false false false fun _ => false) := Row.new _ _ _
        have nb_G_5 : ¬ g = u1.heap.size := by have := isRow.lt PG_5q; (try simp only [size_drew_] at this); omega
        have bn_G_5 : ¬ u1.heap.size = g := by omega
        have nb_L_5 : ¬ bl = u1.heap.size := by have := isRow.lt PL_5q; (try simp only [size_drew_] at this); omega
        have bn_L_5 : ¬ u1.heap.size = bl := by omega
        have hz_5 : w.heap.size ≤ u1.heap.size := hF_5q.size
        refine hK.out _ _ ?_ (fun hHeld => ?_)
        · exact ⟨isRow_alloc PG_5q, (rowAt_alloc PG_5q).trans PG_5q', isRow_alloc PL_5q, (rowAt_alloc PL_5q).trans PL_5q', hF_5q.alloc hz_5 _⟩
        clear hK K
        try simp only [Act.put, List.setIfInBounds_toArray, List.set_cons_zero, List.set_cons_succ]
        refine wpAnyH_ready (rs := [10]) (by kernel_rfl) (by simp) ?_
        refine AllReadyH.cons (o := { dst := some 20, op := Op.call { callee := Callee.value (Operand.func 92), args := #[Operand.tmp 13, Operand.tmp 18, Operand.tmp 19], argTypes := #[107, 47, 3] }, type := 139, pos := "ref.go:49", after := #[{ on := 3, ground := Ground.data }, { on := 8, ground := Ground.data }, { on := 9, ground := Ground.data }, { on := 8, ground := Ground.chain }], guard := none }) rfl (fun K hK => ?_) AllReadyH.nil
        · skip
          (have hq_ := hHeld; (try dsimp only at hq_))
          obtain ⟨PG_6q, PG_6q', PL_6q, PL_6q', hF_6q⟩ := hq_
          go_simp
          refine (HT.out _).mono ?_
          rintro e u6 ⟨rfl, hb⟩
          obtain ⟨NB6, NB6'⟩ := Row.step NB5 NB5' hb
          refine hK.out _ _ ?_ (fun hHeld => ?_)
          · exact ⟨rk1 PG_6q hb, rk2 PG_6q PG_6q' hb, rk1 PL_6q hb, rk2 PL_6q PL_6q' hb, bk hF_6q hF_6q.size hb⟩
          clear hK K
          try simp only [Act.put, List.setIfInBounds_toArray, List.set_cons_zero, List.set_cons_succ]
          refine wpAnyH_take (i := 11) (oi := { dst := some 9, op := Op.move (Operand.tmp 20), type := 139, pos := "ref.go:49", after := #[{ on := 10, ground := Ground.data }], guard := none }) (v := ?_) rfl (by kernel_rfl) (by kernel_rfl) (by kernel_rfl) (fun _ _ _ h => h) (Or.inl ⟨by rfl, ?_⟩) (by assumption) ?_
          rotate_left
          · (intro w_ hS_; (try dsimp only at hS_); go_simp; try with_reducible rfl)
          try simp only [Act.put, List.setIfInBounds_toArray, List.set_cons_zero, List.set_cons_succ]
          refine wpAnyH_take (i := 12) (oi := { dst := some 21, op := Op.extract (Operand.tmp 9) 0, type := 107, pos := "ref.go:49", after := #[{ on := 11, ground := Ground.data }], guard := none }) (v := ?_) rfl (by kernel_rfl) (by kernel_rfl) (by kernel_rfl) (fun _ _ _ h => h) (Or.inl ⟨by rfl, ?_⟩) (by assumption) ?_
          rotate_left
          · (intro w_ hS_; (try dsimp only at hS_); go_simp; try with_reducible rfl)
          try simp only [Act.put, List.setIfInBounds_toArray, List.set_cons_zero, List.set_cons_succ]
          refine wpAnyH_take (i := 13) (oi := { dst := some 22, op := Op.extract (Operand.tmp 9) 1, type := 3, pos := "ref.go:49", after := #[{ on := 11, ground := Ground.data }, { on := 16, ground := Ground.gcOnly Departure.lateStores }], guard := none }) (v := ?_) rfl (by kernel_rfl) (by kernel_rfl) (by kernel_rfl) (fun _ _ _ h => h) (Or.inl ⟨by rfl, ?_⟩) (by assumption) ?_
          rotate_left
          · (intro w_ hS_; (try dsimp only at hS_); go_simp; try with_reducible rfl)
          try simp only [Act.put, List.setIfInBounds_toArray, List.set_cons_zero, List.set_cons_succ]
          refine wpAnyH_take (i := 14) (oi := { dst := some 23, op := Op.extract (Operand.tmp 9) 2, type := 4, pos := "ref.go:49", after := #[{ on := 11, ground := Ground.data }, { on := 17, ground := Ground.gcOnly Departure.lateStores }], guard := none }) (v := ?_) rfl (by kernel_rfl) (by kernel_rfl) (by kernel_rfl) (fun _ _ _ h => h) (Or.inl ⟨by rfl, ?_⟩) (by assumption) ?_
          rotate_left
          · (intro w_ hS_; (try dsimp only at hS_); go_simp; try with_reducible rfl)
          try simp only [Act.put, List.setIfInBounds_toArray, List.set_cons_zero, List.set_cons_succ]
          refine wpAnyH_ready (rs := [16]) (by kernel_rfl) (by simp) ?_
          refine AllReadyH.cons (o := { dst := none, op := Op.store 107 (Operand.tmp 5) (Operand.tmp 21), type := 0, pos := "ref.go:49", after := #[{ on := 15, ground := Ground.data }, { on := 12, ground := Ground.data }, { on := 10, ground := Ground.chain }, { on := 0, ground := Ground.phase }, { on := 1, ground := Ground.phase }, { on := 2, ground := Ground.phase }, { on := 3, ground := Ground.phase }, { on := 4, ground := Ground.phase }, { on := 5, ground := Ground.phase }, { on := 6, ground := Ground.phase }, { on := 7, ground := Ground.phase }, { on := 8, ground := Ground.phase }, { on := 9, ground := Ground.phase }, { on := 10, ground := Ground.phase }, { on := 11, ground := Ground.phase }, { on := 12, ground := Ground.phase }, { on := 13, ground := Ground.textOnly Departure.lateStores }, { on := 14, ground := Ground.textOnly Departure.lateStores }, { on := 15, ground := Ground.phase }], guard := none }) rfl (fun K hK => ?_) AllReadyH.nil
          · skip
            (have hq_ := hHeld; (try dsimp only at hq_))
            obtain ⟨PG_7q, PG_7q', PL_7q, PL_7q', hF_7q⟩ := hq_
            go_simp
            obtain ⟨NB7, NB7'⟩ : Row (u6.setRow u1.heap.size R') u1.heap.size R' := Row.setRow NB6
            refine hK.out _ _ ?_ (fun hHeld => ?_)
            · exact ⟨isRow_setRow PG_7q, (rowAt_setRow_other (by assumption)).trans PG_7q', isRow_setRow PL_7q, (rowAt_setRow_other (by assumption)).trans PL_7q', below_setRow hF_7q (by assumption) _⟩
            clear hK K
            try simp only [Act.put, List.setIfInBounds_toArray, List.set_cons_zero, List.set_cons_succ]
            refine wpAnyH_take (i := 17) (oi := { dst := some 6, op := Op.assign (Operand.tmp 22), type := 3, pos := "ref.go:49", after := #[{ on := 13, ground := Ground.data }, { on := 16, ground := Ground.chain }, { on := 0, ground := Ground.phase }, { on := 1, ground := Ground.phase }, { on := 2, ground := Ground.phase }, { on := 3, ground := Ground.phase }, { on := 4, ground := Ground.phase }, { on := 5, ground := Ground.phase }, { on := 6, ground := Ground.phase }, { on := 7, ground := Ground.phase }, { on := 8, ground := Ground.phase }, { on := 9, ground := Ground.phase }, { on := 10, ground := Ground.phase }, { on := 11, ground := Ground.phase }, { on := 12, ground := Ground.phase }, { on := 13, ground := Ground.phase }, { on := 14, ground := Ground.textOnly Departure.lateStores }, { on := 15, ground := Ground.phase }, { on := 16, ground := Ground.phase }], guard := none }) (v := ?_) rfl (by kernel_rfl) (by kernel_rfl) (by kernel_rfl) (fun _ _ _ h => h) (Or.inl ⟨by rfl, ?_⟩) (by assumption) ?_
            rotate_left
            · (intro w_ hS_; (try dsimp only at hS_); go_simp; try with_reducible rfl)
            try simp only [Act.put, List.setIfInBounds_toArray, List.set_cons_zero, List.set_cons_succ]
            refine wpAnyH_take (i := 18) (oi := { dst := some 7, op := Op.assign (Operand.tmp 23), type := 4, pos := "ref.go:49", after := #[{ on := 14, ground := Ground.data }, { on := 17, ground := Ground.chain }, { on := 0, ground := Ground.phase }, { on := 1, ground := Ground.phase }, { on := 2, ground := Ground.phase }, { on := 3, ground := Ground.phase }, { on := 4, ground := Ground.phase }, { on := 5, ground := Ground.phase }, { on := 6, ground := Ground.phase }, { on := 7, ground := Ground.phase }, { on := 8, ground := Ground.phase }, { on := 9, ground := Ground.phase }, { on := 10, ground := Ground.phase }, { on := 11, ground := Ground.phase }, { on := 12, ground := Ground.phase }, { on := 13, ground := Ground.phase }, { on := 14, ground := Ground.phase }, { on := 15, ground := Ground.phase }, { on := 16, ground := Ground.phase }, { on := 17, ground := Ground.phase }], guard := none }) (v := ?_) rfl (by kernel_rfl) (by kernel_rfl) (by kernel_rfl) (fun _ _ _ h => h) (Or.inl ⟨by rfl, ?_⟩) (by assumption) ?_
            rotate_left
            · (intro w_ hS_; (try dsimp only at hS_); go_simp; try with_reducible rfl)
            try simp only [Act.put, List.setIfInBounds_toArray, List.set_cons_zero, List.set_cons_succ]
            refine wpAnyH_done (by kernel_rfl) ?_ _
            (have hq_ := hHeld; (try dsimp only at hq_))
            obtain ⟨PG_7e, PG_7e', PL_7e, PL_7e', hF_7e⟩ := hq_
            have hF := hF_7e
            (go_wp2_with fail; go_meet; exact ⟨u1.heap.size, rfl, rfl, rfl, by assumption, ⟨NB7, NB7'⟩, ⟨by assumption, by assumption⟩, ⟨by assumption, by assumption⟩, hF⟩)
    · skip
      (have hq_ := hHeld; (try dsimp only at hq_))
      obtain ⟨PG_8q, PG_8q', PL_8q, PL_8q', hF_8q⟩ := hq_
      go_simp
      obtain ⟨NB8, NB8'⟩ : Row (w.drew.alloc (.cells (RC 0 0 0 false false false fun _ => false) 107)) w.heap.size (RC 0 0 0 false false false fun _ => false) := Row.new _ _ _
      have nb_G_8 : ¬ g = w.heap.size := by have := isRow.lt PG_8q; (try simp only [size_drew_] at this); omega
      have bn_G_8 : ¬ w.heap.size = g := by omega
      have nb_L_8 : ¬ bl = w.heap.size := by have := isRow.lt PL_8q; (try simp only [size_drew_] at this); omega
      have bn_L_8 : ¬ w.heap.size = bl := by omega
      have hz_8 : w.heap.size ≤ w.heap.size := hF_8q.size
      refine hK.out _ _ ?_ (fun hHeld => ?_)
      · exact ⟨isRow_alloc PG_8q, (rowAt_alloc PG_8q).trans PG_8q', isRow_alloc PL_8q, (rowAt_alloc PL_8q).trans PL_8q', hF_8q.alloc hz_8 _⟩
      clear hK K
      try simp only [Act.put, List.setIfInBounds_toArray, List.set_cons_zero, List.set_cons_succ]
      refine wpAnyH_ready (rs := [8]) (by kernel_rfl) (by simp) ?_
      refine AllReadyH.cons (o := { dst := some 18, op := Op.call { callee := Callee.value (Operand.func 58), args := #[Operand.tmp 17], argTypes := #[22] }, type := 47, pos := "ref.go:49", after := #[{ on := 7, ground := Ground.data }], guard := none }) rfl (fun K hK => ?_) AllReadyH.nil
      · skip
        (have hq_ := hHeld; (try dsimp only at hq_))
        obtain ⟨PG_9q, PG_9q', PL_9q, PL_9q', hF_9q⟩ := hq_
        go_simp
        refine (HB.out _ (by assumption) (by assumption)).mono ?_
        rintro e u9 ⟨rfl, hb⟩
        obtain ⟨NB9, NB9'⟩ := Row.step NB8 NB8' hb
        refine hK.out _ _ ?_ (fun hHeld => ?_)
        · exact ⟨rk1 PG_9q hb, rk2 PG_9q PG_9q' hb, rk1 PL_9q hb, rk2 PL_9q PL_9q' hb, bk hF_9q hF_9q.size hb⟩
        clear hK K
        try simp only [Act.put, List.setIfInBounds_toArray, List.set_cons_zero, List.set_cons_succ]
        refine wpAnyH_ready (rs := [10]) (by kernel_rfl) (by simp) ?_
        refine AllReadyH.cons (o := { dst := some 20, op := Op.call { callee := Callee.value (Operand.func 92), args := #[Operand.tmp 13, Operand.tmp 18, Operand.tmp 19], argTypes := #[107, 47, 3] }, type := 139, pos := "ref.go:49", after := #[{ on := 3, ground := Ground.data }, { on := 8, ground := Ground.data }, { on := 9, ground := Ground.data }, { on := 8, ground := Ground.chain }], guard := none }) rfl (fun K hK => ?_) AllReadyH.nil
        · skip
          (have hq_ := hHeld; (try dsimp only at hq_))
          obtain ⟨PG_10q, PG_10q', PL_10q, PL_10q', hF_10q⟩ := hq_
          go_simp
          refine (HT.out _).mono ?_
          rintro e u10 ⟨rfl, hb⟩
          obtain ⟨NB10, NB10'⟩ := Row.step NB9 NB9' hb
          refine hK.out _ _ ?_ (fun hHeld => ?_)
          · exact ⟨rk1 PG_10q hb, rk2 PG_10q PG_10q' hb, rk1 PL_10q hb, rk2 PL_10q PL_10q' hb, bk hF_10q hF_10q.size hb⟩
          clear hK K
          try simp only [Act.put, List.setIfInBounds_toArray, List.set_cons_zero, List.set_cons_succ]
          refine wpAnyH_take (i := 11) (oi := { dst := some 9, op := Op.move (Operand.tmp 20), type := 139, pos := "ref.go:49", after := #[{ on := 10, ground := Ground.data }], guard := none }) (v := ?_) rfl (by kernel_rfl) (by kernel_rfl) (by kernel_rfl) (fun _ _ _ h => h) (Or.inl ⟨by rfl, ?_⟩) (by assumption) ?_
          rotate_left
          · (intro w_ hS_; (try dsimp only at hS_); go_simp; try with_reducible rfl)
          try simp only [Act.put, List.setIfInBounds_toArray, List.set_cons_zero, List.set_cons_succ]
          refine wpAnyH_take (i := 12) (oi := { dst := some 21, op := Op.extract (Operand.tmp 9) 0, type := 107, pos := "ref.go:49", after := #[{ on := 11, ground := Ground.data }], guard := none }) (v := ?_) rfl (by kernel_rfl) (by kernel_rfl) (by kernel_rfl) (fun _ _ _ h => h) (Or.inl ⟨by rfl, ?_⟩) (by assumption) ?_
          rotate_left
          · (intro w_ hS_; (try dsimp only at hS_); go_simp; try with_reducible rfl)
          try simp only [Act.put, List.setIfInBounds_toArray, List.set_cons_zero, List.set_cons_succ]
          refine wpAnyH_take (i := 13) (oi := { dst := some 22, op := Op.extract (Operand.tmp 9) 1, type := 3, pos := "ref.go:49", after := #[{ on := 11, ground := Ground.data }, { on := 16, ground := Ground.gcOnly Departure.lateStores }], guard := none }) (v := ?_) rfl (by kernel_rfl) (by kernel_rfl) (by kernel_rfl) (fun _ _ _ h => h) (Or.inl ⟨by rfl, ?_⟩) (by assumption) ?_
          rotate_left
          · (intro w_ hS_; (try dsimp only at hS_); go_simp; try with_reducible rfl)
          try simp only [Act.put, List.setIfInBounds_toArray, List.set_cons_zero, List.set_cons_succ]
          refine wpAnyH_take (i := 14) (oi := { dst := some 23, op := Op.extract (Operand.tmp 9) 2, type := 4, pos := "ref.go:49", after := #[{ on := 11, ground := Ground.data }, { on := 17, ground := Ground.gcOnly Departure.lateStores }], guard := none }) (v := ?_) rfl (by kernel_rfl) (by kernel_rfl) (by kernel_rfl) (fun _ _ _ h => h) (Or.inl ⟨by rfl, ?_⟩) (by assumption) ?_
          rotate_left
          · (intro w_ hS_; (try dsimp only at hS_); go_simp; try with_reducible rfl)
          try simp only [Act.put, List.setIfInBounds_toArray, List.set_cons_zero, List.set_cons_succ]
          refine wpAnyH_ready (rs := [16]) (by kernel_rfl) (by simp) ?_
          refine AllReadyH.cons (o := { dst := none, op := Op.store 107 (Operand.tmp 5) (Operand.tmp 21), type := 0, pos := "ref.go:49", after := #[{ on := 15, ground := Ground.data }, { on := 12, ground := Ground.data }, { on := 10, ground := Ground.chain }, { on := 0, ground := Ground.phase }, { on := 1, ground := Ground.phase }, { on := 2, ground := Ground.phase }, { on := 3, ground := Ground.phase }, { on := 4, ground := Ground.phase }, { on := 5, ground := Ground.phase }, { on := 6, ground := Ground.phase }, { on := 7, ground := Ground.phase }, { on := 8, ground := Ground.phase }, { on := 9, ground := Ground.phase }, { on := 10, ground := Ground.phase }, { on := 11, ground := Ground.phase }, { on := 12, ground := Ground.phase }, { on := 13, ground := Ground.textOnly Departure.lateStores }, { on := 14, ground := Ground.textOnly Departure.lateStores }, { on := 15, ground := Ground.phase }], guard := none }) rfl (fun K hK => ?_) AllReadyH.nil
          · skip
            (have hq_ := hHeld; (try dsimp only at hq_))
            obtain ⟨PG_11q, PG_11q', PL_11q, PL_11q', hF_11q⟩ := hq_
            go_simp
            obtain ⟨NB11, NB11'⟩ : Row (u10.setRow w.heap.size R') w.heap.size R' := Row.setRow NB10
            refine hK.out _ _ ?_ (fun hHeld => ?_)
            · exact ⟨isRow_setRow PG_11q, (rowAt_setRow_other (by assumption)).trans PG_11q', isRow_setRow PL_11q, (rowAt_setRow_other (by assumption)).trans PL_11q', below_setRow hF_11q (by assumption) _⟩
            clear hK K
            try simp only [Act.put, List.setIfInBounds_toArray, List.set_cons_zero, List.set_cons_succ]
            refine wpAnyH_take (i := 17) (oi := { dst := some 6, op := Op.assign (Operand.tmp 22), type := 3, pos := "ref.go:49", after := #[{ on := 13, ground := Ground.data }, { on := 16, ground := Ground.chain }, { on := 0, ground := Ground.phase }, { on := 1, ground := Ground.phase }, { on := 2, ground := Ground.phase }, { on := 3, ground := Ground.phase }, { on := 4, ground := Ground.phase }, { on := 5, ground := Ground.phase }, { on := 6, ground := Ground.phase }, { on := 7, ground := Ground.phase }, { on := 8, ground := Ground.phase }, { on := 9, ground := Ground.phase }, { on := 10, ground := Ground.phase }, { on := 11, ground := Ground.phase }, { on := 12, ground := Ground.phase }, { on := 13, ground := Ground.phase }, { on := 14, ground := Ground.textOnly Departure.lateStores }, { on := 15, ground := Ground.phase }, { on := 16, ground := Ground.phase }], guard := none }) (v := ?_) rfl (by kernel_rfl) (by kernel_rfl) (by kernel_rfl) (fun _ _ _ h => h) (Or.inl ⟨by rfl, ?_⟩) (by assumption) ?_
            rotate_left
            · (intro w_ hS_; (try dsimp only at hS_); go_simp; try with_reducible rfl)
            try simp only [Act.put, List.setIfInBounds_toArray, List.set_cons_zero, List.set_cons_succ]
            refine wpAnyH_take (i := 18) (oi := { dst := some 7, op := Op.assign (Operand.tmp 23), type := 4, pos := "ref.go:49", after := #[{ on := 14, ground := Ground.data }, { on := 17, ground := Ground.chain }, { on := 0, ground := Ground.phase }, { on := 1, ground := Ground.phase }, { on := 2, ground := Ground.phase }, { on := 3, ground := Ground.phase }, { on := 4, ground := Ground.phase }, { on := 5, ground := Ground.phase }, { on := 6, ground := Ground.phase }, { on := 7, ground := Ground.phase }, { on := 8, ground := Ground.phase }, { on := 9, ground := Ground.phase }, { on := 10, ground := Ground.phase }, { on := 11, ground := Ground.phase }, { on := 12, ground := Ground.phase }, { on := 13, ground := Ground.phase }, { on := 14, ground := Ground.phase }, { on := 15, ground := Ground.phase }, { on := 16, ground := Ground.phase }, { on := 17, ground := Ground.phase }], guard := none }) (v := ?_) rfl (by kernel_rfl) (by kernel_rfl) (by kernel_rfl) (fun _ _ _ h => h) (Or.inl ⟨by rfl, ?_⟩) (by assumption) ?_
            rotate_left
            · (intro w_ hS_; (try dsimp only at hS_); go_simp; try with_reducible rfl)
            try simp only [Act.put, List.setIfInBounds_toArray, List.set_cons_zero, List.set_cons_succ]
            refine wpAnyH_done (by kernel_rfl) ?_ _
            (have hq_ := hHeld; (try dsimp only at hq_))
            obtain ⟨PG_11e, PG_11e', PL_11e, PL_11e', hF_11e⟩ := hq_
            have hF := hF_11e
            (go_wp2_with fail; go_meet; exact ⟨w.heap.size, rfl, rfl, rfl, by assumption, ⟨NB11, NB11'⟩, ⟨by assumption, by assumption⟩, ⟨by assumption, by assumption⟩, hF⟩)
  case rest =>
    obtain ⟨B, rfl, rfl, rfl, hB, ⟨B1, B1'⟩, ⟨G1, G1'⟩, ⟨L1, L1'⟩, hX0⟩ := hcut
    have hX : Aside2 g bl w wc := .of_below hX0
    have lg := hr.lt
    have ll := hl.lt
    have nb1 : ¬ g = B := by omega
    have nb2 : ¬ B = g := by omega
    have nb3 : ¬ bl = B := by omega
    have nb4 : ¬ B = bl := by omega
    clear hr hr' hl hl' hB0 hX0
    have hB_0 : Below w.heap.size w w := Below.refl _ _
    go_wp2_with fail
    refine (HF.out _ (by go_simp) (by go_simp)).mono ?_
    rintro e v1 ⟨rfl, hb1⟩
    obtain ⟨B_1, B_1'⟩ : Row v1 B R' := Row.step (by go_simp) (by go_simp) hb1
    obtain ⟨G_1, G_1'⟩ : Row v1 g (RV R' (.slice (some ⟨bl, 0, none⟩) n n) (.int .i64 lost)) := Row.step (by go_simp) (by go_simp) hb1
    obtain ⟨L_1, L_1'⟩ : Row v1 bl C := Row.step (by go_simp) (by go_simp) hb1
    have hB_1 : Aside2 g bl w v1 := Aside2.low (by go_simp) hb1
    clear B1 B1' G1 G1' L1 L1' hX hb1
    have hz_1 : w.heap.size ≤ v1.heap.size := hB_1.size
    have hl_B_1 := isRow.lt B_1
    have hl_G_1 := isRow.lt G_1
    have hl_L_1 := isRow.lt L_1
    go_wp2
    go_ret
    exact ⟨rfl, ⟨by go_simp, by go_simp⟩, ⟨by go_simp, by go_simp⟩, by go_simp⟩
set_option maxRecDepth 100000 in
set_option maxHeartbeats 4000000 in
theorem rack_hi (g bl : Nat) (R R' : Array Value) (hR : R.size = 70) (hR' : R'.size = 70) (hO : AllOne R') (n : Nat) (C : Array Value) (lost id pr gr : Int) (is : Bool) (gp : Int) (w : World) (hr : isRow w g) (hr' : rowAt w g = (RV R (.slice (some ⟨bl, 0, none⟩) n n) (.int .i64 lost))) (hl : isRow w bl) (hl' : rowAt w bl = C) (hne : ¬ g = bl) (hne' : ¬ bl = g) (k : Nat) (hk : k < n) (hid : 8192 ≤ id) (st : Int) (c0 : C[k * 7]? = some (.int .i64 st)) (HF : Hid (∀ W : World, isRow W bl → rowAt W bl = C → Calls Try.prog 93 #[.slice (some ⟨bl, 0, none⟩) n n, .int .i64 id] W fun e w' => e = .returned (.int .i64 (k : Int)) ∧ Below W.heap.size W w'))
    (HB : Hid (∀ W : World, isRow W bl → rowAt W bl = C → Calls Try.prog 58 #[.slice (some ⟨bl, 0, none⟩) n n] W fun e w' => e = .returned (.agg #[.int .i64 id, .int .i64 pr, .int .i64 gr, .bool is]) ∧ Below W.heap.size W w'))
    (HT : Hid (∀ W : World, Calls Try.prog 92 #[.agg R, .agg #[.int .i64 id, .int .i64 pr, .int .i64 gr, .bool is], .int .i64 gp] W fun e w' => e = .returned (.tuple #[.agg R', .int .i64 id, .bool true]) ∧ Below W.heap.size W w')) :
    Calls Try.prog 84 #[.pointer (some ⟨g, 0, none⟩), .int .i64 gp] w fun e w' => e = .returned (.int .i64 id) ∧ Row w' g (RV R' (.slice (some ⟨bl, 0, none⟩) n n) (.int .i64 lost)) ∧ Row w' bl ((C.setIfInBounds (k * 7) (.int .i64 2)).setIfInBounds (k * 7) (.int .i64 0)) ∧ Aside2 g bl w w' := by
  have _u : True := by have _ := hne; have _ := hne'; trivial
  clear _u
  have hB0 : Below w.heap.size w w := Below.refl _ _
  have k1 : (0 : Int) ≤ (k : Int) := by omega
  have k2 : (k : Int) < (n : Int) := by omega
  have _v := hk
  clear _v
  have c0' : (C.setIfInBounds (k * 7) (.int .i64 2))[k * 7]? = some (.int .i64 2) := by rw [Array.getElem?_setIfInBounds_self_of_lt (Array.getElem?_eq_some_iff.1 c0).1]
  go_enter Try.func84, Try.ntmps84
  go_upto_region 1 with fail
  go_cut [5, 6, 7] (fun s5 s6 s7 wx => ∃ B : Nat, s5 = .pointer (some ⟨B, 0, none⟩) ∧ s6 = .int .i64 id ∧ s7 = .bool true ∧ w.heap.size ≤ B ∧ Row wx B R' ∧ Row wx g (RV R (.slice (some ⟨bl, 0, none⟩) n n) (.int .i64 lost)) ∧ Row wx bl C ∧ Below w.heap.size w wx)
  case first =>
    have hB_0 : Below w.heap.size w w := Below.refl _ _
    refine wp_region_held_drew (S := fun w' => isRow w' g ∧ rowAt w' g = (RV R (.slice (some ⟨bl, 0, none⟩) n n) (.int .i64 lost)) ∧ isRow w' bl ∧ rowAt w' bl = C ∧ Below w.heap.size w w') (by kernel_rfl) ⟨hr, hr', hl, hl', below_drew0 hB_0⟩ (fun hHeld => ?_)
    refine wpAnyH_take (i := 0) (oi := { dst := some 10, op := Op.move (Operand.tmp 0), type := 75, pos := "ref.go:49", after := #[], guard := none }) (v := ?_) rfl (by kernel_rfl) (by kernel_rfl) (by kernel_rfl) (fun _ _ _ h => h) (Or.inl ⟨by rfl, ?_⟩) (by assumption) ?_
    rotate_left
    · (intro w_ hS_; (try dsimp only at hS_); go_simp; try with_reducible rfl)
    try simp only [Act.put, List.setIfInBounds_toArray, List.set_cons_zero, List.set_cons_succ]
    refine wpAnyH_take (i := 1) (oi := { dst := some 11, op := Op.nilCheck (Operand.tmp 10), type := 0, pos := "ref.go:49", after := #[{ on := 0, ground := Ground.data }], guard := none }) (v := ?_) rfl (by kernel_rfl) (by kernel_rfl) (by kernel_rfl) (fun _ _ _ h => h) (Or.inl ⟨by rfl, ?_⟩) (by assumption) ?_
    rotate_left
    · (intro w_ hS_; (try dsimp only at hS_); go_simp; try with_reducible rfl)
    try simp only [Act.put, List.setIfInBounds_toArray, List.set_cons_zero, List.set_cons_succ]
    refine wpAnyH_take (i := 2) (oi := { dst := some 12, op := Op.fieldAddr 110 (Operand.tmp 11) 0, type := 0, pos := "ref.go:49", after := #[{ on := 1, ground := Ground.data }], guard := none }) (v := ?_) rfl (by kernel_rfl) (by kernel_rfl) (by kernel_rfl) (fun _ _ _ h => h) (Or.inl ⟨by rfl, ?_⟩) (by assumption) ?_
    rotate_left
    · (intro w_ hS_; (try dsimp only at hS_); go_simp; try with_reducible rfl)
    try simp only [Act.put, List.setIfInBounds_toArray, List.set_cons_zero, List.set_cons_succ]
    refine wpAnyH_take (i := 3) (oi := { dst := some 13, op := Op.load 107 (Operand.tmp 12), type := 107, pos := "ref.go:49", after := #[{ on := 2, ground := Ground.data }], guard := none }) (v := ?_) rfl (by kernel_rfl) (by kernel_rfl) (by kernel_rfl) (fun _ _ _ h => h) (Or.inl ⟨by rfl, ?_⟩) (by assumption) ?_
    rotate_left
    · (intro w_ hS_; (try dsimp only at hS_); go_simp; try with_reducible rfl)
    try simp only [Act.put, List.setIfInBounds_toArray, List.set_cons_zero, List.set_cons_succ]
    refine wpAnyH_take (i := 4) (oi := { dst := some 14, op := Op.move (Operand.tmp 0), type := 75, pos := "ref.go:49", after := #[], guard := none }) (v := ?_) rfl (by kernel_rfl) (by kernel_rfl) (by kernel_rfl) (fun _ _ _ h => h) (Or.inl ⟨by rfl, ?_⟩) (by assumption) ?_
    rotate_left
    · (intro w_ hS_; (try dsimp only at hS_); go_simp; try with_reducible rfl)
    try simp only [Act.put, List.setIfInBounds_toArray, List.set_cons_zero, List.set_cons_succ]
    refine wpAnyH_take (i := 5) (oi := { dst := some 15, op := Op.nilCheck (Operand.tmp 14), type := 0, pos := "ref.go:49", after := #[{ on := 4, ground := Ground.data }], guard := none }) (v := ?_) rfl (by kernel_rfl) (by kernel_rfl) (by kernel_rfl) (fun _ _ _ h => h) (Or.inl ⟨by rfl, ?_⟩) (by assumption) ?_
    rotate_left
    · (intro w_ hS_; (try dsimp only at hS_); go_simp; try with_reducible rfl)
    try simp only [Act.put, List.setIfInBounds_toArray, List.set_cons_zero, List.set_cons_succ]
    refine wpAnyH_take (i := 6) (oi := { dst := some 16, op := Op.fieldAddr 110 (Operand.tmp 15) 1, type := 0, pos := "ref.go:49", after := #[{ on := 5, ground := Ground.data }], guard := none }) (v := ?_) rfl (by kernel_rfl) (by kernel_rfl) (by kernel_rfl) (fun _ _ _ h => h) (Or.inl ⟨by rfl, ?_⟩) (by assumption) ?_
    rotate_left
    · (intro w_ hS_; (try dsimp only at hS_); go_simp; try with_reducible rfl)
    try simp only [Act.put, List.setIfInBounds_toArray, List.set_cons_zero, List.set_cons_succ]
    refine wpAnyH_take (i := 7) (oi := { dst := some 17, op := Op.load 22 (Operand.tmp 16), type := 22, pos := "ref.go:49", after := #[{ on := 6, ground := Ground.data }], guard := none }) (v := ?_) rfl (by kernel_rfl) (by kernel_rfl) (by kernel_rfl) (fun _ _ _ h => h) (Or.inl ⟨by rfl, ?_⟩) (by assumption) ?_
    rotate_left
    · (intro w_ hS_; (try dsimp only at hS_); go_simp; try with_reducible rfl)
    try simp only [Act.put, List.setIfInBounds_toArray, List.set_cons_zero, List.set_cons_succ]
    refine wpAnyH_take (i := 9) (oi := { dst := some 19, op := Op.move (Operand.tmp 1), type := 3, pos := "ref.go:49", after := #[], guard := none }) (v := ?_) rfl (by kernel_rfl) (by kernel_rfl) (by kernel_rfl) (fun _ _ _ h => h) (Or.inl ⟨by rfl, ?_⟩) (by assumption) ?_
    rotate_left
    · (intro w_ hS_; (try dsimp only at hS_); go_simp; try with_reducible rfl)
    try simp only [Act.put, List.setIfInBounds_toArray, List.set_cons_zero, List.set_cons_succ]
    refine wpAnyH_ready (rs := [8, 15]) (by kernel_rfl) (by simp) ?_
    refine AllReadyH.cons (o := { dst := some 18, op := Op.call { callee := Callee.value (Operand.func 58), args := #[Operand.tmp 17], argTypes := #[22] }, type := 47, pos := "ref.go:49", after := #[{ on := 7, ground := Ground.data }], guard := none }) rfl (fun K hK => ?_) (AllReadyH.cons (o := { dst := some 5, op := Op.alloc 107, type := 0, pos := "ref.go:49", after := #[], guard := none }) rfl (fun K hK => ?_) AllReadyH.nil)
    · skip
      (have hq_ := hHeld; (try dsimp only at hq_))
      obtain ⟨PG_1q, PG_1q', PL_1q, PL_1q', hF_1q⟩ := hq_
      go_simp
      refine (HB.out _ (by assumption) (by assumption)).mono ?_
      rintro e u1 ⟨rfl, hb⟩
      refine hK.out _ _ ?_ (fun hHeld => ?_)
      · exact ⟨rk1 PG_1q hb, rk2 PG_1q PG_1q' hb, rk1 PL_1q hb, rk2 PL_1q PL_1q' hb, bk hF_1q hF_1q.size hb⟩
      clear hK K
      try simp only [Act.put, List.setIfInBounds_toArray, List.set_cons_zero, List.set_cons_succ]
      refine wpAnyH_ready (rs := [10, 15]) (by kernel_rfl) (by simp) ?_
      refine AllReadyH.cons (o := { dst := some 20, op := Op.call { callee := Callee.value (Operand.func 92), args := #[Operand.tmp 13, Operand.tmp 18, Operand.tmp 19], argTypes := #[107, 47, 3] }, type := 139, pos := "ref.go:49", after := #[{ on := 3, ground := Ground.data }, { on := 8, ground := Ground.data }, { on := 9, ground := Ground.data }, { on := 8, ground := Ground.chain }], guard := none }) rfl (fun K hK => ?_) (AllReadyH.cons (o := { dst := some 5, op := Op.alloc 107, type := 0, pos := "ref.go:49", after := #[], guard := none }) rfl (fun K hK => ?_) AllReadyH.nil)
      · skip
        (have hq_ := hHeld; (try dsimp only at hq_))
        obtain ⟨PG_2q, PG_2q', PL_2q, PL_2q', hF_2q⟩ := hq_
        go_simp
        refine (HT.out _).mono ?_
        rintro e u2 ⟨rfl, hb⟩
        refine hK.out _ _ ?_ (fun hHeld => ?_)
        · exact ⟨rk1 PG_2q hb, rk2 PG_2q PG_2q' hb, rk1 PL_2q hb, rk2 PL_2q PL_2q' hb, bk hF_2q hF_2q.size hb⟩
        clear hK K
        try simp only [Act.put, List.setIfInBounds_toArray, List.set_cons_zero, List.set_cons_succ]
        refine wpAnyH_take (i := 11) (oi := { dst := some 9, op := Op.move (Operand.tmp 20), type := 139, pos := "ref.go:49", after := #[{ on := 10, ground := Ground.data }], guard := none }) (v := ?_) rfl (by kernel_rfl) (by kernel_rfl) (by kernel_rfl) (fun _ _ _ h => h) (Or.inl ⟨by rfl, ?_⟩) (by assumption) ?_
        rotate_left
        · (intro w_ hS_; (try dsimp only at hS_); go_simp; try with_reducible rfl)
        try simp only [Act.put, List.setIfInBounds_toArray, List.set_cons_zero, List.set_cons_succ]
        refine wpAnyH_take (i := 12) (oi := { dst := some 21, op := Op.extract (Operand.tmp 9) 0, type := 107, pos := "ref.go:49", after := #[{ on := 11, ground := Ground.data }], guard := none }) (v := ?_) rfl (by kernel_rfl) (by kernel_rfl) (by kernel_rfl) (fun _ _ _ h => h) (Or.inl ⟨by rfl, ?_⟩) (by assumption) ?_
        rotate_left
        · (intro w_ hS_; (try dsimp only at hS_); go_simp; try with_reducible rfl)
        try simp only [Act.put, List.setIfInBounds_toArray, List.set_cons_zero, List.set_cons_succ]
        refine wpAnyH_take (i := 13) (oi := { dst := some 22, op := Op.extract (Operand.tmp 9) 1, type := 3, pos := "ref.go:49", after := #[{ on := 11, ground := Ground.data }, { on := 16, ground := Ground.gcOnly Departure.lateStores }], guard := none }) (v := ?_) rfl (by kernel_rfl) (by kernel_rfl) (by kernel_rfl) (fun _ _ _ h => h) (Or.inl ⟨by rfl, ?_⟩) (by assumption) ?_
        rotate_left
        · (intro w_ hS_; (try dsimp only at hS_); go_simp; try with_reducible rfl)
        try simp only [Act.put, List.setIfInBounds_toArray, List.set_cons_zero, List.set_cons_succ]
        refine wpAnyH_take (i := 14) (oi := { dst := some 23, op := Op.extract (Operand.tmp 9) 2, type := 4, pos := "ref.go:49", after := #[{ on := 11, ground := Ground.data }, { on := 17, ground := Ground.gcOnly Departure.lateStores }], guard := none }) (v := ?_) rfl (by kernel_rfl) (by kernel_rfl) (by kernel_rfl) (fun _ _ _ h => h) (Or.inl ⟨by rfl, ?_⟩) (by assumption) ?_
        rotate_left
        · (intro w_ hS_; (try dsimp only at hS_); go_simp; try with_reducible rfl)
        try simp only [Act.put, List.setIfInBounds_toArray, List.set_cons_zero, List.set_cons_succ]
        refine wpAnyH_ready (rs := [15]) (by kernel_rfl) (by simp) ?_
        refine AllReadyH.cons (o := { dst := some 5, op := Op.alloc 107, type := 0, pos := "ref.go:49", after := #[], guard := none }) rfl (fun K hK => ?_) AllReadyH.nil
        · skip
          (have hq_ := hHeld; (try dsimp only at hq_))
          obtain ⟨PG_3q, PG_3q', PL_3q, PL_3q', hF_3q⟩ := hq_
          go_simp
          obtain ⟨NB3, NB3'⟩ : Row (u2.alloc (.cells (RC 0 0 0 false false false fun _ => false) 107)) u2.heap.size (RC 0 0 0 false false false fun _ => false) := Row.new _ _ _
          have nb_G_3 : ¬ g = u2.heap.size := by have := isRow.lt PG_3q; (try simp only [size_drew_] at this); omega
          have bn_G_3 : ¬ u2.heap.size = g := by omega
          have nb_L_3 : ¬ bl = u2.heap.size := by have := isRow.lt PL_3q; (try simp only [size_drew_] at this); omega
          have bn_L_3 : ¬ u2.heap.size = bl := by omega
          have hz_3 : w.heap.size ≤ u2.heap.size := hF_3q.size
          refine hK.out _ _ ?_ (fun hHeld => ?_)
          · exact ⟨isRow_alloc PG_3q, (rowAt_alloc PG_3q).trans PG_3q', isRow_alloc PL_3q, (rowAt_alloc PL_3q).trans PL_3q', hF_3q.alloc hz_3 _⟩
          clear hK K
          try simp only [Act.put, List.setIfInBounds_toArray, List.set_cons_zero, List.set_cons_succ]
          refine wpAnyH_ready (rs := [16]) (by kernel_rfl) (by simp) ?_
          refine AllReadyH.cons (o := { dst := none, op := Op.store 107 (Operand.tmp 5) (Operand.tmp 21), type := 0, pos := "ref.go:49", after := #[{ on := 15, ground := Ground.data }, { on := 12, ground := Ground.data }, { on := 10, ground := Ground.chain }, { on := 0, ground := Ground.phase }, { on := 1, ground := Ground.phase }, { on := 2, ground := Ground.phase }, { on := 3, ground := Ground.phase }, { on := 4, ground := Ground.phase }, { on := 5, ground := Ground.phase }, { on := 6, ground := Ground.phase }, { on := 7, ground := Ground.phase }, { on := 8, ground := Ground.phase }, { on := 9, ground := Ground.phase }, { on := 10, ground := Ground.phase }, { on := 11, ground := Ground.phase }, { on := 12, ground := Ground.phase }, { on := 13, ground := Ground.textOnly Departure.lateStores }, { on := 14, ground := Ground.textOnly Departure.lateStores }, { on := 15, ground := Ground.phase }], guard := none }) rfl (fun K hK => ?_) AllReadyH.nil
          · skip
            (have hq_ := hHeld; (try dsimp only at hq_))
            obtain ⟨PG_4q, PG_4q', PL_4q, PL_4q', hF_4q⟩ := hq_
            go_simp
            obtain ⟨NB4, NB4'⟩ : Row ((u2.alloc (.cells (RC 0 0 0 false false false fun _ => false) 107)).setRow u2.heap.size R') u2.heap.size R' := Row.setRow NB3
            refine hK.out _ _ ?_ (fun hHeld => ?_)
            · exact ⟨isRow_setRow PG_4q, (rowAt_setRow_other (by assumption)).trans PG_4q', isRow_setRow PL_4q, (rowAt_setRow_other (by assumption)).trans PL_4q', below_setRow hF_4q (by assumption) _⟩
            clear hK K
            try simp only [Act.put, List.setIfInBounds_toArray, List.set_cons_zero, List.set_cons_succ]
            refine wpAnyH_take (i := 17) (oi := { dst := some 6, op := Op.assign (Operand.tmp 22), type := 3, pos := "ref.go:49", after := #[{ on := 13, ground := Ground.data }, { on := 16, ground := Ground.chain }, { on := 0, ground := Ground.phase }, { on := 1, ground := Ground.phase }, { on := 2, ground := Ground.phase }, { on := 3, ground := Ground.phase }, { on := 4, ground := Ground.phase }, { on := 5, ground := Ground.phase }, { on := 6, ground := Ground.phase }, { on := 7, ground := Ground.phase }, { on := 8, ground := Ground.phase }, { on := 9, ground := Ground.phase }, { on := 10, ground := Ground.phase }, { on := 11, ground := Ground.phase }, { on := 12, ground := Ground.phase }, { on := 13, ground := Ground.phase }, { on := 14, ground := Ground.textOnly Departure.lateStores }, { on := 15, ground := Ground.phase }, { on := 16, ground := Ground.phase }], guard := none }) (v := ?_) rfl (by kernel_rfl) (by kernel_rfl) (by kernel_rfl) (fun _ _ _ h => h) (Or.inl ⟨by rfl, ?_⟩) (by assumption) ?_
            rotate_left
            · (intro w_ hS_; (try dsimp only at hS_); go_simp; try with_reducible rfl)
            try simp only [Act.put, List.setIfInBounds_toArray, List.set_cons_zero, List.set_cons_succ]
            refine wpAnyH_take (i := 18) (oi := { dst := some 7, op := Op.assign (Operand.tmp 23), type := 4, pos := "ref.go:49", after := #[{ on := 14, ground := Ground.data }, { on := 17, ground := Ground.chain }, { on := 0, ground := Ground.phase }, { on := 1, ground := Ground.phase }, { on := 2, ground := Ground.phase }, { on := 3, ground := Ground.phase }, { on := 4, ground := Ground.phase }, { on := 5, ground := Ground.phase }, { on := 6, ground := Ground.phase }, { on := 7, ground := Ground.phase }, { on := 8, ground := Ground.phase }, { on := 9, ground := Ground.phase }, { on := 10, ground := Ground.phase }, { on := 11, ground := Ground.phase }, { on := 12, ground := Ground.phase }, { on := 13, ground := Ground.phase }, { on := 14, ground := Ground.phase }, { on := 15, ground := Ground.phase }, { on := 16, ground := Ground.phase }, { on := 17, ground := Ground.phase }], guard := none }) (v := ?_) rfl (by kernel_rfl) (by kernel_rfl) (by kernel_rfl) (fun _ _ _ h => h) (Or.inl ⟨by rfl, ?_⟩) (by assumption) ?_
            rotate_left
            · (intro w_ hS_; (try dsimp only at hS_); go_simp; try with_reducible rfl)
            try simp only [Act.put, List.setIfInBounds_toArray, List.set_cons_zero, List.set_cons_succ]
            refine wpAnyH_done (by kernel_rfl) ?_ _
            (have hq_ := hHeld; (try dsimp only at hq_))
            obtain ⟨PG_4e, PG_4e', PL_4e, PL_4e', hF_4e⟩ := hq_
            have hF := hF_4e
            (go_wp2_with fail; go_meet; exact ⟨u2.heap.size, rfl, rfl, rfl, by assumption, ⟨NB4, NB4'⟩, ⟨by assumption, by assumption⟩, ⟨by assumption, by assumption⟩, hF⟩)
      · skip
        (have hq_ := hHeld; (try dsimp only at hq_))
        obtain ⟨PG_5q, PG_5q', PL_5q, PL_5q', hF_5q⟩ := hq_
        go_simp
        obtain ⟨NB5, NB5'⟩ : Row (u1.alloc (.cells (RC 0 0 0 false false false fun _ => false) 107)) u1.heap.size (RC 0 0 0 false false false fun _ => false) := Row.new _ _ _
        have nb_G_5 : ¬ g = u1.heap.size := by have := isRow.lt PG_5q; (try simp only [size_drew_] at this); omega
        have bn_G_5 : ¬ u1.heap.size = g := by omega
        have nb_L_5 : ¬ bl = u1.heap.size := by have := isRow.lt PL_5q; (try simp only [size_drew_] at this); omega
        have bn_L_5 : ¬ u1.heap.size = bl := by omega
        have hz_5 : w.heap.size ≤ u1.heap.size := hF_5q.size
        refine hK.out _ _ ?_ (fun hHeld => ?_)
        · exact ⟨isRow_alloc PG_5q, (rowAt_alloc PG_5q).trans PG_5q', isRow_alloc PL_5q, (rowAt_alloc PL_5q).trans PL_5q', hF_5q.alloc hz_5 _⟩
        clear hK K
        try simp only [Act.put, List.setIfInBounds_toArray, List.set_cons_zero, List.set_cons_succ]
        refine wpAnyH_ready (rs := [10]) (by kernel_rfl) (by simp) ?_
        refine AllReadyH.cons (o := { dst := some 20, op := Op.call { callee := Callee.value (Operand.func 92), args := #[Operand.tmp 13, Operand.tmp 18, Operand.tmp 19], argTypes := #[107, 47, 3] }, type := 139, pos := "ref.go:49", after := #[{ on := 3, ground := Ground.data }, { on := 8, ground := Ground.data }, { on := 9, ground := Ground.data }, { on := 8, ground := Ground.chain }], guard := none }) rfl (fun K hK => ?_) AllReadyH.nil
        · skip
          (have hq_ := hHeld; (try dsimp only at hq_))
          obtain ⟨PG_6q, PG_6q', PL_6q, PL_6q', hF_6q⟩ := hq_
          go_simp
          refine (HT.out _).mono ?_
          rintro e u6 ⟨rfl, hb⟩
          obtain ⟨NB6, NB6'⟩ := Row.step NB5 NB5' hb
          refine hK.out _ _ ?_ (fun hHeld => ?_)
          · exact ⟨rk1 PG_6q hb, rk2 PG_6q PG_6q' hb, rk1 PL_6q hb, rk2 PL_6q PL_6q' hb, bk hF_6q hF_6q.size hb⟩
          clear hK K
          try simp only [Act.put, List.setIfInBounds_toArray, List.set_cons_zero, List.set_cons_succ]
          refine wpAnyH_take (i := 11) (oi := { dst := some 9, op := Op.move (Operand.tmp 20), type := 139, pos := "ref.go:49", after := #[{ on := 10, ground := Ground.data }], guard := none }) (v := ?_) rfl (by kernel_rfl) (by kernel_rfl) (by kernel_rfl) (fun _ _ _ h => h) (Or.inl ⟨by rfl, ?_⟩) (by assumption) ?_
          rotate_left
          · (intro w_ hS_; (try dsimp only at hS_); go_simp; try with_reducible rfl)
          try simp only [Act.put, List.setIfInBounds_toArray, List.set_cons_zero, List.set_cons_succ]
          refine wpAnyH_take (i := 12) (oi := { dst := some 21, op := Op.extract (Operand.tmp 9) 0, type := 107, pos := "ref.go:49", after := #[{ on := 11, ground := Ground.data }], guard := none }) (v := ?_) rfl (by kernel_rfl) (by kernel_rfl) (by kernel_rfl) (fun _ _ _ h => h) (Or.inl ⟨by rfl, ?_⟩) (by assumption) ?_
          rotate_left
          · (intro w_ hS_; (try dsimp only at hS_); go_simp; try with_reducible rfl)
          try simp only [Act.put, List.setIfInBounds_toArray, List.set_cons_zero, List.set_cons_succ]
          refine wpAnyH_take (i := 13) (oi := { dst := some 22, op := Op.extract (Operand.tmp 9) 1, type := 3, pos := "ref.go:49", after := #[{ on := 11, ground := Ground.data }, { on := 16, ground := Ground.gcOnly Departure.lateStores }], guard := none }) (v := ?_) rfl (by kernel_rfl) (by kernel_rfl) (by kernel_rfl) (fun _ _ _ h => h) (Or.inl ⟨by rfl, ?_⟩) (by assumption) ?_
          rotate_left
          · (intro w_ hS_; (try dsimp only at hS_); go_simp; try with_reducible rfl)
          try simp only [Act.put, List.setIfInBounds_toArray, List.set_cons_zero, List.set_cons_succ]
          refine wpAnyH_take (i := 14) (oi := { dst := some 23, op := Op.extract (Operand.tmp 9) 2, type := 4, pos := "ref.go:49", after := #[{ on := 11, ground := Ground.data }, { on := 17, ground := Ground.gcOnly Departure.lateStores }], guard := none }) (v := ?_) rfl (by kernel_rfl) (by kernel_rfl) (by kernel_rfl) (fun _ _ _ h => h) (Or.inl ⟨by rfl, ?_⟩) (by assumption) ?_
          rotate_left
          · (intro w_ hS_; (try dsimp only at hS_); go_simp; try with_reducible rfl)
          try simp only [Act.put, List.setIfInBounds_toArray, List.set_cons_zero, List.set_cons_succ]
          refine wpAnyH_ready (rs := [16]) (by kernel_rfl) (by simp) ?_
          refine AllReadyH.cons (o := { dst := none, op := Op.store 107 (Operand.tmp 5) (Operand.tmp 21), type := 0, pos := "ref.go:49", after := #[{ on := 15, ground := Ground.data }, { on := 12, ground := Ground.data }, { on := 10, ground := Ground.chain }, { on := 0, ground := Ground.phase }, { on := 1, ground := Ground.phase }, { on := 2, ground := Ground.phase }, { on := 3, ground := Ground.phase }, { on := 4, ground := Ground.phase }, { on := 5, ground := Ground.phase }, { on := 6, ground := Ground.phase }, { on := 7, ground := Ground.phase }, { on := 8, ground := Ground.phase }, { on := 9, ground := Ground.phase }, { on := 10, ground := Ground.phase }, { on := 11, ground := Ground.phase }, { on := 12, ground := Ground.phase }, { on := 13, ground := Ground.textOnly Departure.lateStores }, { on := 14, ground := Ground.textOnly Departure.lateStores }, { on := 15, ground := Ground.phase }], guard := none }) rfl (fun K hK => ?_) AllReadyH.nil
          · skip
            (have hq_ := hHeld; (try dsimp only at hq_))
            obtain ⟨PG_7q, PG_7q', PL_7q, PL_7q', hF_7q⟩ := hq_
            go_simp
            obtain ⟨NB7, NB7'⟩ : Row (u6.setRow u1.heap.size R') u1.heap.size R' := Row.setRow NB6
            refine hK.out _ _ ?_ (fun hHeld => ?_)
            · exact ⟨isRow_setRow PG_7q, (rowAt_setRow_other (by assumption)).trans PG_7q', isRow_setRow PL_7q, (rowAt_setRow_other (by assumption)).trans PL_7q', below_setRow hF_7q (by assumption) _⟩
            clear hK K
            try simp only [Act.put, List.setIfInBounds_toArray, List.set_cons_zero, List.set_cons_succ]
            refine wpAnyH_take (i := 17) (oi := { dst := some 6, op := Op.assign (Operand.tmp 22), type := 3, pos := "ref.go:49", after := #[{ on := 13, ground := Ground.data }, { on := 16, ground := Ground.chain }, { on := 0, ground := Ground.phase }, { on := 1, ground := Ground.phase }, { on := 2, ground := Ground.phase }, { on := 3, ground := Ground.phase }, { on := 4, ground := Ground.phase }, { on := 5, ground := Ground.phase }, { on := 6, ground := Ground.phase }, { on := 7, ground := Ground.phase }, { on := 8, ground := Ground.phase }, { on := 9, ground := Ground.phase }, { on := 10, ground := Ground.phase }, { on := 11, ground := Ground.phase }, { on := 12, ground := Ground.phase }, { on := 13, ground := Ground.phase }, { on := 14, ground := Ground.textOnly Departure.lateStores }, { on := 15, ground := Ground.phase }, { on := 16, ground := Ground.phase }], guard := none }) (v := ?_) rfl (by kernel_rfl) (by kernel_rfl) (by kernel_rfl) (fun _ _ _ h => h) (Or.inl ⟨by rfl, ?_⟩) (by assumption) ?_
            rotate_left
            · (intro w_ hS_; (try dsimp only at hS_); go_simp; try with_reducible rfl)
            try simp only [Act.put, List.setIfInBounds_toArray, List.set_cons_zero, List.set_cons_succ]
            refine wpAnyH_take (i := 18) (oi := { dst := some 7, op := Op.assign (Operand.tmp 23), type := 4, pos := "ref.go:49", after := #[{ on := 14, ground := Ground.data }, { on := 17, ground := Ground.chain }, { on := 0, ground := Ground.phase }, { on := 1, ground := Ground.phase }, { on := 2, ground := Ground.phase }, { on := 3, ground := Ground.phase }, { on := 4, ground := Ground.phase }, { on := 5, ground := Ground.phase }, { on := 6, ground := Ground.phase }, { on := 7, ground := Ground.phase }, { on := 8, ground := Ground.phase }, { on := 9, ground := Ground.phase }, { on := 10, ground := Ground.phase }, { on := 11, ground := Ground.phase }, { on := 12, ground := Ground.phase }, { on := 13, ground := Ground.phase }, { on := 14, ground := Ground.phase }, { on := 15, ground := Ground.phase }, { on := 16, ground := Ground.phase }, { on := 17, ground := Ground.phase }], guard := none }) (v := ?_) rfl (by kernel_rfl) (by kernel_rfl) (by kernel_rfl) (fun _ _ _ h => h) (Or.inl ⟨by rfl, ?_⟩) (by assumption) ?_
            rotate_left
            · (intro w_ hS_; (try dsimp only at hS_); go_simp; try with_reducible rfl)
            try simp only [Act.put, List.setIfInBounds_toArray, List.set_cons_zero, List.set_cons_succ]
            refine wpAnyH_done (by kernel_rfl) ?_ _
            (have hq_ := hHeld; (try dsimp only at hq_))
            obtain ⟨PG_7e, PG_7e', PL_7e, PL_7e', hF_7e⟩ := hq_
            have hF := hF_7e
            (go_wp2_with fail; go_meet; exact ⟨u1.heap.size, rfl, rfl, rfl, by assumption, ⟨NB7, NB7'⟩, ⟨by assumption, by assumption⟩, ⟨by assumption, by assumption⟩, hF⟩)
    · skip
      (have hq_ := hHeld; (try dsimp only at hq_))
      obtain ⟨PG_8q, PG_8q', PL_8q, PL_8q', hF_8q⟩ := hq_
      go_simp
      obtain ⟨NB8, NB8'⟩ : Row (w.drew.alloc (.cells (RC 0 0 0 false false false fun _ => false) 107)) w.heap.size (RC 0 0 0 false false false fun _ => false) := Row.new _ _ _
      have nb_G_8 : ¬ g = w.heap.size := by have := isRow.lt PG_8q; (try simp only [size_drew_] at this); omega
      have bn_G_8 : ¬ w.heap.size = g := by omega
      have nb_L_8 : ¬ bl = w.heap.size := by have := isRow.lt PL_8q; (try simp only [size_drew_] at this); omega
      have bn_L_8 : ¬ w.heap.size = bl := by omega
      have hz_8 : w.heap.size ≤ w.heap.size := hF_8q.size
      refine hK.out _ _ ?_ (fun hHeld => ?_)
      · exact ⟨isRow_alloc PG_8q, (rowAt_alloc PG_8q).trans PG_8q', isRow_alloc PL_8q, (rowAt_alloc PL_8q).trans PL_8q', hF_8q.alloc hz_8 _⟩
      clear hK K
      try simp only [Act.put, List.setIfInBounds_toArray, List.set_cons_zero, List.set_cons_succ]
      refine wpAnyH_ready (rs := [8]) (by kernel_rfl) (by simp) ?_
      refine AllReadyH.cons (o := { dst := some 18, op := Op.call { callee := Callee.value (Operand.func 58), args := #[Operand.tmp 17], argTypes := #[22] }, type := 47, pos := "ref.go:49", after := #[{ on := 7, ground := Ground.data }], guard := none }) rfl (fun K hK => ?_) AllReadyH.nil
      · skip
        (have hq_ := hHeld; (try dsimp only at hq_))
        obtain ⟨PG_9q, PG_9q', PL_9q, PL_9q', hF_9q⟩ := hq_
        go_simp
        refine (HB.out _ (by assumption) (by assumption)).mono ?_
        rintro e u9 ⟨rfl, hb⟩
        obtain ⟨NB9, NB9'⟩ := Row.step NB8 NB8' hb
        refine hK.out _ _ ?_ (fun hHeld => ?_)
        · exact ⟨rk1 PG_9q hb, rk2 PG_9q PG_9q' hb, rk1 PL_9q hb, rk2 PL_9q PL_9q' hb, bk hF_9q hF_9q.size hb⟩
        clear hK K
        try simp only [Act.put, List.setIfInBounds_toArray, List.set_cons_zero, List.set_cons_succ]
        refine wpAnyH_ready (rs := [10]) (by kernel_rfl) (by simp) ?_
        refine AllReadyH.cons (o := { dst := some 20, op := Op.call { callee := Callee.value (Operand.func 92), args := #[Operand.tmp 13, Operand.tmp 18, Operand.tmp 19], argTypes := #[107, 47, 3] }, type := 139, pos := "ref.go:49", after := #[{ on := 3, ground := Ground.data }, { on := 8, ground := Ground.data }, { on := 9, ground := Ground.data }, { on := 8, ground := Ground.chain }], guard := none }) rfl (fun K hK => ?_) AllReadyH.nil
        · skip
          (have hq_ := hHeld; (try dsimp only at hq_))
          obtain ⟨PG_10q, PG_10q', PL_10q, PL_10q', hF_10q⟩ := hq_
          go_simp
          refine (HT.out _).mono ?_
          rintro e u10 ⟨rfl, hb⟩
          obtain ⟨NB10, NB10'⟩ := Row.step NB9 NB9' hb
          refine hK.out _ _ ?_ (fun hHeld => ?_)
          · exact ⟨rk1 PG_10q hb, rk2 PG_10q PG_10q' hb, rk1 PL_10q hb, rk2 PL_10q PL_10q' hb, bk hF_10q hF_10q.size hb⟩
          clear hK K
          try simp only [Act.put, List.setIfInBounds_toArray, List.set_cons_zero, List.set_cons_succ]
          refine wpAnyH_take (i := 11) (oi := { dst := some 9, op := Op.move (Operand.tmp 20), type := 139, pos := "ref.go:49", after := #[{ on := 10, ground := Ground.data }], guard := none }) (v := ?_) rfl (by kernel_rfl) (by kernel_rfl) (by kernel_rfl) (fun _ _ _ h => h) (Or.inl ⟨by rfl, ?_⟩) (by assumption) ?_
          rotate_left
          · (intro w_ hS_; (try dsimp only at hS_); go_simp; try with_reducible rfl)
          try simp only [Act.put, List.setIfInBounds_toArray, List.set_cons_zero, List.set_cons_succ]
          refine wpAnyH_take (i := 12) (oi := { dst := some 21, op := Op.extract (Operand.tmp 9) 0, type := 107, pos := "ref.go:49", after := #[{ on := 11, ground := Ground.data }], guard := none }) (v := ?_) rfl (by kernel_rfl) (by kernel_rfl) (by kernel_rfl) (fun _ _ _ h => h) (Or.inl ⟨by rfl, ?_⟩) (by assumption) ?_
          rotate_left
          · (intro w_ hS_; (try dsimp only at hS_); go_simp; try with_reducible rfl)
          try simp only [Act.put, List.setIfInBounds_toArray, List.set_cons_zero, List.set_cons_succ]
          refine wpAnyH_take (i := 13) (oi := { dst := some 22, op := Op.extract (Operand.tmp 9) 1, type := 3, pos := "ref.go:49", after := #[{ on := 11, ground := Ground.data }, { on := 16, ground := Ground.gcOnly Departure.lateStores }], guard := none }) (v := ?_) rfl (by kernel_rfl) (by kernel_rfl) (by kernel_rfl) (fun _ _ _ h => h) (Or.inl ⟨by rfl, ?_⟩) (by assumption) ?_
          rotate_left
          · (intro w_ hS_; (try dsimp only at hS_); go_simp; try with_reducible rfl)
          try simp only [Act.put, List.setIfInBounds_toArray, List.set_cons_zero, List.set_cons_succ]
          refine wpAnyH_take (i := 14) (oi := { dst := some 23, op := Op.extract (Operand.tmp 9) 2, type := 4, pos := "ref.go:49", after := #[{ on := 11, ground := Ground.data }, { on := 17, ground := Ground.gcOnly Departure.lateStores }], guard := none }) (v := ?_) rfl (by kernel_rfl) (by kernel_rfl) (by kernel_rfl) (fun _ _ _ h => h) (Or.inl ⟨by rfl, ?_⟩) (by assumption) ?_
          rotate_left
          · (intro w_ hS_; (try dsimp only at hS_); go_simp; try with_reducible rfl)
          try simp only [Act.put, List.setIfInBounds_toArray, List.set_cons_zero, List.set_cons_succ]
          refine wpAnyH_ready (rs := [16]) (by kernel_rfl) (by simp) ?_
          refine AllReadyH.cons (o := { dst := none, op := Op.store 107 (Operand.tmp 5) (Operand.tmp 21), type := 0, pos := "ref.go:49", after := #[{ on := 15, ground := Ground.data }, { on := 12, ground := Ground.data }, { on := 10, ground := Ground.chain }, { on := 0, ground := Ground.phase }, { on := 1, ground := Ground.phase }, { on := 2, ground := Ground.phase }, { on := 3, ground := Ground.phase }, { on := 4, ground := Ground.phase }, { on := 5, ground := Ground.phase }, { on := 6, ground := Ground.phase }, { on := 7, ground := Ground.phase }, { on := 8, ground := Ground.phase }, { on := 9, ground := Ground.phase }, { on := 10, ground := Ground.phase }, { on := 11, ground := Ground.phase }, { on := 12, ground := Ground.phase }, { on := 13, ground := Ground.textOnly Departure.lateStores }, { on := 14, ground := Ground.textOnly Departure.lateStores }, { on := 15, ground := Ground.phase }], guard := none }) rfl (fun K hK => ?_) AllReadyH.nil
          · skip
            (have hq_ := hHeld; (try dsimp only at hq_))
            obtain ⟨PG_11q, PG_11q', PL_11q, PL_11q', hF_11q⟩ := hq_
            go_simp
            obtain ⟨NB11, NB11'⟩ : Row (u10.setRow w.heap.size R') w.heap.size R' := Row.setRow NB10
            refine hK.out _ _ ?_ (fun hHeld => ?_)
            · exact ⟨isRow_setRow PG_11q, (rowAt_setRow_other (by assumption)).trans PG_11q', isRow_setRow PL_11q, (rowAt_setRow_other (by assumption)).trans PL_11q', below_setRow hF_11q (by assumption) _⟩
            clear hK K
            try simp only [Act.put, List.setIfInBounds_toArray, List.set_cons_zero, List.set_cons_succ]
            refine wpAnyH_take (i := 17) (oi := { dst := some 6, op := Op.assign (Operand.tmp 22), type := 3, pos := "ref.go:49", after := #[{ on := 13, ground := Ground.data }, { on := 16, ground := Ground.chain }, { on := 0, ground := Ground.phase }, { on := 1, ground := Ground.phase }, { on := 2, ground := Ground.phase }, { on := 3, ground := Ground.phase }, { on := 4, ground := Ground.phase }, { on := 5, ground := Ground.phase }, { on := 6, ground := Ground.phase }, { on := 7, ground := Ground.phase }, { on := 8, ground := Ground.phase }, { on := 9, ground := Ground.phase }, { on := 10, ground := Ground.phase }, { on := 11, ground := Ground.phase }, { on := 12, ground := Ground.phase }, { on := 13, ground := Ground.phase }, { on := 14, ground := Ground.textOnly Departure.lateStores }, { on := 15, ground := Ground.phase }, { on := 16, ground := Ground.phase }], guard := none }) (v := ?_) rfl (by kernel_rfl) (by kernel_rfl) (by kernel_rfl) (fun _ _ _ h => h) (Or.inl ⟨by rfl, ?_⟩) (by assumption) ?_
            rotate_left
            · (intro w_ hS_; (try dsimp only at hS_); go_simp; try with_reducible rfl)
            try simp only [Act.put, List.setIfInBounds_toArray, List.set_cons_zero, List.set_cons_succ]
            refine wpAnyH_take (i := 18) (oi := { dst := some 7, op := Op.assign (Operand.tmp 23), type := 4, pos := "ref.go:49", after := #[{ on := 14, ground := Ground.data }, { on := 17, ground := Ground.chain }, { on := 0, ground := Ground.phase }, { on := 1, ground := Ground.phase }, { on := 2, ground := Ground.phase }, { on := 3, ground := Ground.phase }, { on := 4, ground := Ground.phase }, { on := 5, ground := Ground.phase }, { on := 6, ground := Ground.phase }, { on := 7, ground := Ground.phase }, { on := 8, ground := Ground.phase }, { on := 9, ground := Ground.phase }, { on := 10, ground := Ground.phase }, { on := 11, ground := Ground.phase }, { on := 12, ground := Ground.phase }, { on := 13, ground := Ground.phase }, { on := 14, ground := Ground.phase }, { on := 15, ground := Ground.phase }, { on := 16, ground := Ground.phase }, { on := 17, ground := Ground.phase }], guard := none }) (v := ?_) rfl (by kernel_rfl) (by kernel_rfl) (by kernel_rfl) (fun _ _ _ h => h) (Or.inl ⟨by rfl, ?_⟩) (by assumption) ?_
            rotate_left
            · (intro w_ hS_; (try dsimp only at hS_); go_simp; try with_reducible rfl)
            try simp only [Act.put, List.setIfInBounds_toArray, List.set_cons_zero, List.set_cons_succ]
            refine wpAnyH_done (by kernel_rfl) ?_ _
            (have hq_ := hHeld; (try dsimp only at hq_))
            obtain ⟨PG_11e, PG_11e', PL_11e, PL_11e', hF_11e⟩ := hq_
            have hF := hF_11e
            (go_wp2_with fail; go_meet; exact ⟨w.heap.size, rfl, rfl, rfl, by assumption, ⟨NB11, NB11'⟩, ⟨by assumption, by assumption⟩, ⟨by assumption, by assumption⟩, hF⟩)
  case rest =>
    obtain ⟨B, rfl, rfl, rfl, hB, ⟨B1, B1'⟩, ⟨G1, G1'⟩, ⟨L1, L1'⟩, hX0⟩ := hcut
    have hX : Aside2 g bl w wc := .of_below hX0
    have lg := hr.lt
    have ll := hl.lt
    have nb1 : ¬ g = B := by omega
    have nb2 : ¬ B = g := by omega
    have nb3 : ¬ bl = B := by omega
    have nb4 : ¬ B = bl := by omega
    clear hr hr' hl hl' hB0 hX0
    have hB_0 : Below w.heap.size w w := Below.refl _ _
    go_wp2_with fail
    refine (HF.out _ (by go_simp) (by go_simp)).mono ?_
    rintro e v1 ⟨rfl, hb1⟩
    obtain ⟨B_1, B_1'⟩ : Row v1 B R' := Row.step (by go_simp) (by go_simp) hb1
    obtain ⟨G_1, G_1'⟩ : Row v1 g (RV R' (.slice (some ⟨bl, 0, none⟩) n n) (.int .i64 lost)) := Row.step (by go_simp) (by go_simp) hb1
    obtain ⟨L_1, L_1'⟩ : Row v1 bl C := Row.step (by go_simp) (by go_simp) hb1
    have hB_1 : Aside2 g bl w v1 := Aside2.low (by go_simp) hb1
    clear B1 B1' G1 G1' L1 L1' hX hb1
    have hz_1 : w.heap.size ≤ v1.heap.size := hB_1.size
    have hl_B_1 := isRow.lt B_1
    have hl_G_1 := isRow.lt G_1
    have hl_L_1 := isRow.lt L_1
    go_wp2
    go_ret
    exact ⟨rfl, ⟨by go_simp, by go_simp⟩, ⟨by go_simp, by go_simp⟩, by go_simp⟩
end Go.Proofs.Ytkbaghblchlcnaa.Lr
