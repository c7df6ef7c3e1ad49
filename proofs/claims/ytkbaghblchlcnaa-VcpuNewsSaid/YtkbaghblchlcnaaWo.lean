/- The law VcpuNews, walked. -/
import Derived.Test.YtkbaghblchlcnaaWn
namespace Go.Proofs.Ytkbaghblchlcnaa.Lr
open Go.RowKit Go.Shelf Go.Proofs.YtkbaghblchlcnaaW.PrintWords Go.Proofs.Ytkbaghblchlcnaa.IAll
attribute [local go_sem] Oper.semAt_some cell_row frozen_row isRow_setCell_eq rowAt_setCell_same rowAt_setCell_other isRow_alloc_eq rowAt_alloc rowAt_new rowAt_new' isRow_setRow_eq rowAt_setRow_same rowAt_setRow_other isRow_drew rowAt_drew size_setRow_ Lb_size Lb_at blk_ptr aggOf_agg below_alloc_e below_setCell_e below_setRow_e below_refl_e below_drew_r aside2_alloc_e aside2_setCell_e aside2_setRow_e aside2_drew_e aside2_refl_e aside2_drewN_e isRow_drewN rowAt_drewN below_drewN_e le_add_r offv_ptr one_lad zero_lad allOne_nil allOne_cons Value.oneCell' addr_at FA_size one_FA FA_size
attribute [local go_sem ↓] storeI storeC
attribute [local go_sem] eq2i eq2b eq2u
theorem ackT_off (xs : List S54) (gp : Int) : ackT 0 0 0 false false 0 0 xs gp = false := by unfold ackT takeB mayP onP; simp
theorem ack_off (gv lv n : Nat) (xs : List S54) (hn : xs.length = n) (h16 : n ≤ 16) (gp : Int) (hne : ¬ gv = lv) (W : World) (h1 : isRow W gv) (h1' : rowAt W gv = #[.int .i64 0, .int .i64 0, .int .i64 0, .bool false, .bool false, .bool false, .int .u32 0, .int .u32 0, .slice (some ⟨lv, 0, none⟩) n n, .int .i64 0]) (h2 : isRow W lv) (h2' : rowAt W lv = FA xs) :
    Calls Try.prog 17 #[.pointer (some ⟨gv, 0, none⟩), .int .i64 gp] W fun e w' => e = .returned (.int .i64 1023) ∧ Row w' gv #[.int .i64 0, .int .i64 0, .int .i64 0, .bool false, .bool false, .bool false, .int .u32 0, .int .u32 0, .slice (some ⟨lv, 0, none⟩) n n, .int .i64 0] ∧ Row w' lv (FA xs) ∧ Aside2 gv lv W w' := by
  subst hn
  have q := ack_c gv lv 0 0 0 false false false 0 0 xs h16 0 gp hne W h1 h1' h2 h2'
  unfold ackId ackXs ackA ackB at q
  simp only [ackT_off, Bool.false_eq_true, if_false] at q
  exact q
set_option maxRecDepth 100000 in
set_option maxHeartbeats 4000000 in
theorem news_bad (w : World) (A : Option Addr) (cA : Nat) (ls : List S54) (hC : Kd.C k54 w A ls.length ls) (hcA : ls.length ≤ cA) (l : Int) (h : l < 1 ∨ 16 < l) :
    Calls Try.prog 3 #[.int .i64 l, .slice A ls.length cA] w fun e w' => e = .returned (.bool true) ∧ Below w.heap.size w w' := by
  have _u := hC
  have _v := hcA
  clear _u _v hC hcA
  have HN := Lib.hid (fun W : World => VNew_bad l W h)
  by_cases h1 : l < 1
  · clear h
    go_enter Try.func3, Try.ntmps3
    have hB_0 : Below w.heap.size w w := Below.refl _ _
    go_wp2_with fail
    refine (awake_c _).mono ?_
    rintro e v1 ⟨rfl, hb1⟩
    have hB_1 : Below w.heap.size w v1 := bk (by go_simp) (by first | (go_simp; done) | (go_simp; omega) | exact Below.size (by assumption)) hb1
    clear hB_0 hb1
    have hz_1 : w.heap.size ≤ v1.heap.size := hB_1.size
    go_wp2_with fail
    refine (HN.out _).mono ?_
    rintro e v2 ⟨rfl, hb2⟩
    have hB_2 : Below w.heap.size w v2 := bk (by go_simp) (by first | (go_simp; done) | (go_simp; omega) | exact Below.size (by assumption)) hb2
    clear hB_1 hb2
    have hz_2 : w.heap.size ≤ v2.heap.size := hB_2.size
    go_wp2
    go_ret
    exact ⟨rfl, by go_simp⟩
  · have h2 : 16 < l := by omega
    clear h
    go_enter Try.func3, Try.ntmps3
    have hB_0 : Below w.heap.size w w := Below.refl _ _
    go_wp2_with fail
    refine (awake_c _).mono ?_
    rintro e v1 ⟨rfl, hb1⟩
    have hB_1 : Below w.heap.size w v1 := bk (by go_simp) (by first | (go_simp; done) | (go_simp; omega) | exact Below.size (by assumption)) hb1
    clear hB_0 hb1
    have hz_1 : w.heap.size ≤ v1.heap.size := hB_1.size
    go_wp2_with fail
    refine (HN.out _).mono ?_
    rintro e v2 ⟨rfl, hb2⟩
    have hB_2 : Below w.heap.size w v2 := bk (by go_simp) (by first | (go_simp; done) | (go_simp; omega) | exact Below.size (by assumption)) hb2
    clear hB_1 hb2
    have hz_2 : w.heap.size ≤ v2.heap.size := hB_2.size
    go_wp2
    go_ret
    exact ⟨rfl, by go_simp⟩
set_option maxRecDepth 100000 in
set_option maxHeartbeats 4000000 in
theorem news_lt (w : World) (A : Option Addr) (cA : Nat) (ls : List S54) (hC : Kd.C k54 w A ls.length ls) (hcA : ls.length ≤ cA) (n : Nat) (h1 : 1 ≤ n) (h2 : n ≤ 16) (rr : Int) (hrr : crierref20_Right.f 400 ls = some rr) (hlt : n < ls.length) :
    Calls Try.prog 3 #[.int .i64 (n : Int), .slice A ls.length cA] w fun e w' => e = .returned (.bool true) ∧ Below w.heap.size w w' := by
  have HN := Lib.hid (fun W : World => VNew_c n h1 h2 W)
  have hRl : ∀ W, Below w.heap.size w W → Calls Try.prog 15 #[.slice A ls.length cA] W fun e w' => e = .returned (.int .i64 rr) ∧ Below W.heap.size W w' := fun W qb => crierref20_Right.calls 400 A cA ls rr W (Kd.C_below hC qb) hcA hrr
  have HR := Lib.hid hRl
  have hLd : ∀ (gv lv : Nat), ¬ gv = lv → w.heap.size ≤ lv → ∀ W, Below w.heap.size w W → isRow W gv → rowAt W gv = #[.int .i64 0, .int .i64 0, .int .i64 0, .bool false, .bool false, .bool false, .int .u32 0, .int .u32 0, .slice (some ⟨lv, 0, none⟩) n n, .int .i64 0] → isRow W lv → rowAt W lv = FA (List.replicate n z54) → Calls Try.prog 16 #[.pointer (some ⟨gv, 0, none⟩), .slice A ls.length cA] W fun e w' => e = .returned (.int .i64 1) ∧ Row w' gv #[.int .i64 0, .int .i64 0, .int .i64 0, .bool false, .bool false, .bool false, .int .u32 0, .int .u32 0, .slice (some ⟨lv, 0, none⟩) n n, .int .i64 0] ∧ Row w' lv (FA (List.replicate n z54)) ∧ Aside2 gv lv W w' := fun gv lv n12 gw2 W qb q1 q2 q3 q4 => by
    have hS : SOk n ⟨0, 0, 0, false, false, false, 0, 0, (List.replicate n z54), 0⟩ := ⟨List.length_replicate, h2, h1, rep_st n, Int.le_refl 0, by show (0 : Int) ≤ 4611686018427387904; omega⟩
    have q := vload_c n gv lv ⟨0, 0, 0, false, false, false, 0, 0, (List.replicate n z54), 0⟩ hS n12 W q3 q4 A cA ls (Kd.C_below hC qb) hcA (fun ad e hn => by have q0 := blk_lt hC ad e hn; have q5 := qb.size; exact ⟨by omega, by omega⟩) q1 q2
    unfold loadS at q
    unfold loadN loadXs at q
    dsimp only at q
    rw [if_pos hlt, if_pos hlt] at q
    exact q
  have HL := Lib.hid hLd
  have hlx : ((List.replicate n z54)).length = n := List.length_replicate
  have HX := Lib.hid hlx
  have e1 : ¬ (n : Int) < 1 := by omega
  have e2 : ¬ 16 < (n : Int) := by omega
  have e3 : (n : Int) < (ls.length : Int) := by omega
  clear hRl hLd hlx hC hrr
  go_enter Try.func3, Try.ntmps3
  have hB_0 : Below w.heap.size w w := Below.refl _ _
  go_wp2_with fail
  refine (awake_c _).mono ?_
  rintro e v1 ⟨rfl, hb1⟩
  have hB_1 : Below w.heap.size w v1 := bk (by go_simp) (by first | (go_simp; done) | (go_simp; omega) | exact Below.size (by assumption)) hb1
  clear hB_0 hb1
  have hz_1 : w.heap.size ≤ v1.heap.size := hB_1.size
  go_wp2_with fail
  refine (HN.out _).mono ?_
  rintro e v0 ⟨rfl, hV0, hL0, hb0⟩
  have hB0 : Below w.heap.size w v0 := bk hB_1 hB_1.size hb0
  have gw0 := hB_1.size
  generalize hgv : v1.heap.size + 1 = gv at *
  generalize hlv : v1.heap.size = lv at *
  obtain ⟨V0, V0'⟩ : Row v0 gv #[.int .i64 0, .int .i64 0, .int .i64 0, .bool false, .bool false, .bool false, .int .u32 0, .int .u32 0, .slice (some ⟨lv, 0, none⟩) n n, .int .i64 0] := hV0
  obtain ⟨L0, L0'⟩ : Row v0 lv (FA (List.replicate n z54)) := hL0
  have n12 : ¬ gv = lv := by omega
  have n21 : ¬ lv = gv := by omega
  have gw1 : w.heap.size ≤ gv := by omega
  clear hb0 hB_1 HN hgv hlv
  go_wp2_with fail
  refine wp_named (fun W_ => (isRow W_ gv ∧ rowAt W_ gv = #[.int .i64 0, .int .i64 0, .int .i64 0, .bool false, .bool false, .bool false, .int .u32 0, .int .u32 0, .slice (some ⟨lv, 0, none⟩) n n, .int .i64 0]) ∧ (isRow W_ lv ∧ rowAt W_ lv = (FA (List.replicate n z54))) ∧ Below w.heap.size w W_) (by refine ⟨⟨by go_simp, by go_simp⟩, ⟨by go_simp, by go_simp⟩, by go_simp⟩) ?_
  rintro v1 ⟨⟨V_1, V_1'⟩, ⟨L_1, L_1'⟩, hB_1⟩
  clear V0 V0' L0 L0' hB0
  have hz_1 : w.heap.size ≤ v1.heap.size := hB_1.size
  have hl_V_1 := isRow.lt V_1
  have ne_V_1_0 : ¬ gv = v1.heap.size := by omega
  have en_V_1_0 : ¬ v1.heap.size = gv := by omega
  have hl_L_1 := isRow.lt L_1
  have ne_L_1_0 : ¬ lv = v1.heap.size := by omega
  have en_L_1_0 : ¬ v1.heap.size = lv := by omega
  refine wp_region_held_drew (S := fun w' => isRow w' gv ∧ rowAt w' gv = #[.int .i64 0, .int .i64 0, .int .i64 0, .bool false, .bool false, .bool false, .int .u32 0, .int .u32 0, .slice (some ⟨lv, 0, none⟩) n n, .int .i64 0] ∧ isRow w' lv ∧ rowAt w' lv = (FA (List.replicate n z54)) ∧ Below w.heap.size w w') (by kernel_rfl) ⟨V_1, V_1', L_1, L_1', below_drew0 hB_1⟩ (fun hHeld => ?_)
  refine wpAnyH_take (i := 0) (oi := { dst := some 32, op := Op.move (Operand.tmp 5), type := 4, pos := "law.go:146", after := #[], guard := none }) (v := ?_) rfl (by kernel_rfl) (by kernel_rfl) (by kernel_rfl) (fun _ _ _ h => h) (Or.inl ⟨by rfl, ?_⟩) (by assumption) ?_
  rotate_left
  · (intro w_ hS_; (try dsimp only at hS_); go_simp; try with_reducible rfl)
  try simp only [Act.put, List.setIfInBounds_toArray, List.set_cons_zero, List.set_cons_succ]
  refine wpAnyH_take (i := 1) (oi := { dst := some 33, op := Op.unOp UnOp.not 4 (Operand.tmp 32), type := 4, pos := "law.go:146", after := #[{ on := 0, ground := Ground.data }], guard := none }) (v := ?_) rfl (by kernel_rfl) (by kernel_rfl) (by kernel_rfl) (fun _ _ _ h => h) (Or.inl ⟨by rfl, ?_⟩) (by assumption) ?_
  rotate_left
  · (intro w_ hS_; (try dsimp only at hS_); go_simp; try with_reducible rfl)
  try simp only [Act.put, List.setIfInBounds_toArray, List.set_cons_zero, List.set_cons_succ]
  refine wpAnyH_take (i := 2) (oi := { dst := some 34, op := Op.move (Operand.tmp 33), type := 4, pos := "law.go:146", after := #[{ on := 1, ground := Ground.data }], guard := none }) (v := ?_) rfl (by kernel_rfl) (by kernel_rfl) (by kernel_rfl) (fun _ _ _ h => h) (Or.inl ⟨by rfl, ?_⟩) (by assumption) ?_
  rotate_left
  · (intro w_ hS_; (try dsimp only at hS_); go_simp; try with_reducible rfl)
  try simp only [Act.put, List.setIfInBounds_toArray, List.set_cons_zero, List.set_cons_succ]
  refine wpAnyH_take (i := 3) (oi := { dst := some 35, op := Op.move (Operand.tmp 6), type := 24, pos := "law.go:146", after := #[{ on := 2, ground := Ground.guard }], guard := some (2, false) }) (v := ?_) rfl (by kernel_rfl) (by kernel_rfl) (by kernel_rfl) (fun _ _ _ h => h) (Or.inl ⟨by rfl, ?_⟩) (by assumption) ?_
  rotate_left
  · (intro w_ hS_; (try dsimp only at hS_); go_simp; try with_reducible rfl)
  try simp only [Act.put, List.setIfInBounds_toArray, List.set_cons_zero, List.set_cons_succ]
  refine wpAnyH_take (i := 4) (oi := { dst := some 36, op := Op.binOp BinOp.eql 24 (Operand.tmp 35) (Operand.const (Value.pointer none)) 24, type := 4, pos := "law.go:146", after := #[{ on := 3, ground := Ground.data }, { on := 2, ground := Ground.guard }], guard := some (2, false) }) (v := ?_) rfl (by kernel_rfl) (by kernel_rfl) (by kernel_rfl) (fun _ _ _ h => h) (Or.inl ⟨by rfl, ?_⟩) (by assumption) ?_
  rotate_left
  · (intro w_ hS_; (try dsimp only at hS_); go_simp; try with_reducible rfl)
  try simp only [Act.put, List.setIfInBounds_toArray, List.set_cons_zero, List.set_cons_succ]
  refine wpAnyH_take (i := 5) (oi := { dst := some 37, op := Op.pick (Operand.tmp 34) (Operand.const (Value.bool true)) (Operand.tmp 36), type := 4, pos := "law.go:146", after := #[{ on := 2, ground := Ground.data }, { on := 4, ground := Ground.data }], guard := none }) (v := ?_) rfl (by kernel_rfl) (by kernel_rfl) (by kernel_rfl) (fun _ _ _ h => h) (Or.inl ⟨by rfl, ?_⟩) (by assumption) ?_
  rotate_left
  · (intro w_ hS_; (try dsimp only at hS_); go_simp; try with_reducible rfl)
  try simp only [Act.put, List.setIfInBounds_toArray, List.set_cons_zero, List.set_cons_succ]
  refine wpAnyH_take (i := 6) (oi := { dst := some 38, op := Op.move (Operand.tmp 37), type := 4, pos := "law.go:146", after := #[{ on := 5, ground := Ground.data }, { on := 2, ground := Ground.chain }], guard := none }) (v := ?_) rfl (by kernel_rfl) (by kernel_rfl) (by kernel_rfl) (fun _ _ _ h => h) (Or.inl ⟨by rfl, ?_⟩) (by assumption) ?_
  rotate_left
  · (intro w_ hS_; (try dsimp only at hS_); go_simp; try with_reducible rfl)
  try simp only [Act.put, List.setIfInBounds_toArray, List.set_cons_zero, List.set_cons_succ]
  refine wpAnyH_take (i := 7) (oi := { dst := some 39, op := Op.move (Operand.tmp 7), type := 25, pos := "law.go:146", after := #[{ on := 6, ground := Ground.guard }], guard := some (6, false) }) (v := ?_) rfl (by kernel_rfl) (by kernel_rfl) (by kernel_rfl) (fun _ _ _ h => h) (Or.inl ⟨by rfl, ?_⟩) (by assumption) ?_
  rotate_left
  · (intro w_ hS_; (try dsimp only at hS_); go_simp; try with_reducible rfl)
  try simp only [Act.put, List.setIfInBounds_toArray, List.set_cons_zero, List.set_cons_succ]
  refine wpAnyH_take (i := 8) (oi := { dst := some 40, op := Op.binOp BinOp.neq 25 (Operand.tmp 39) (Operand.const (Value.int IntKind.i64 0)) 25, type := 4, pos := "law.go:146", after := #[{ on := 7, ground := Ground.data }, { on := 6, ground := Ground.guard }], guard := some (6, false) }) (v := ?_) rfl (by kernel_rfl) (by kernel_rfl) (by kernel_rfl) (fun _ _ _ h => h) (Or.inl ⟨by rfl, ?_⟩) (by assumption) ?_
  rotate_left
  · (intro w_ hS_; (try dsimp only at hS_); go_simp; try with_reducible rfl)
  try simp only [Act.put, List.setIfInBounds_toArray, List.set_cons_zero, List.set_cons_succ]
  refine wpAnyH_take (i := 9) (oi := { dst := some 41, op := Op.pick (Operand.tmp 38) (Operand.const (Value.bool true)) (Operand.tmp 40), type := 4, pos := "law.go:146", after := #[{ on := 6, ground := Ground.data }, { on := 8, ground := Ground.data }], guard := none }) (v := ?_) rfl (by kernel_rfl) (by kernel_rfl) (by kernel_rfl) (fun _ _ _ h => h) (Or.inl ⟨by rfl, ?_⟩) (by assumption) ?_
  rotate_left
  · (intro w_ hS_; (try dsimp only at hS_); go_simp; try with_reducible rfl)
  try simp only [Act.put, List.setIfInBounds_toArray, List.set_cons_zero, List.set_cons_succ]
  refine wpAnyH_take (i := 10) (oi := { dst := some 42, op := Op.move (Operand.tmp 41), type := 4, pos := "law.go:146", after := #[{ on := 9, ground := Ground.data }, { on := 6, ground := Ground.chain }], guard := none }) (v := ?_) rfl (by kernel_rfl) (by kernel_rfl) (by kernel_rfl) (fun _ _ _ h => h) (Or.inl ⟨by rfl, ?_⟩) (by assumption) ?_
  rotate_left
  · (intro w_ hS_; (try dsimp only at hS_); go_simp; try with_reducible rfl)
  try simp only [Act.put, List.setIfInBounds_toArray, List.set_cons_zero, List.set_cons_succ]
  refine wpAnyH_take (i := 11) (oi := { dst := some 43, op := Op.move (Operand.tmp 6), type := 24, pos := "law.go:146", after := #[{ on := 10, ground := Ground.guard }], guard := some (10, false) }) (v := ?_) rfl (by kernel_rfl) (by kernel_rfl) (by kernel_rfl) (fun _ _ _ h => h) (Or.inl ⟨by rfl, ?_⟩) (by assumption) ?_
  rotate_left
  · (intro w_ hS_; (try dsimp only at hS_); go_simp; try with_reducible rfl)
  try simp only [Act.put, List.setIfInBounds_toArray, List.set_cons_zero, List.set_cons_succ]
  refine wpAnyH_take (i := 12) (oi := { dst := some 44, op := Op.nilCheck (Operand.tmp 43), type := 0, pos := "law.go:146", after := #[{ on := 11, ground := Ground.data }, { on := 10, ground := Ground.guard }], guard := some (10, false) }) (v := ?_) rfl (by kernel_rfl) (by kernel_rfl) (by kernel_rfl) (fun _ _ _ h => h) (Or.inl ⟨by rfl, ?_⟩) (by assumption) ?_
  rotate_left
  · (intro w_ hS_; (try dsimp only at hS_); go_simp; try with_reducible rfl)
  try simp only [Act.put, List.setIfInBounds_toArray, List.set_cons_zero, List.set_cons_succ]
  refine wpAnyH_take (i := 13) (oi := { dst := some 45, op := Op.fieldAddr 37 (Operand.tmp 44) 1, type := 0, pos := "law.go:146", after := #[{ on := 12, ground := Ground.data }, { on := 10, ground := Ground.guard }], guard := some (10, false) }) (v := ?_) rfl (by kernel_rfl) (by kernel_rfl) (by kernel_rfl) (fun _ _ _ h => h) (Or.inl ⟨by rfl, ?_⟩) (by assumption) ?_
  rotate_left
  · (intro w_ hS_; (try dsimp only at hS_); go_simp; try with_reducible rfl)
  try simp only [Act.put, List.setIfInBounds_toArray, List.set_cons_zero, List.set_cons_succ]
  refine wpAnyH_take (i := 14) (oi := { dst := some 46, op := Op.load 22 (Operand.tmp 45), type := 22, pos := "law.go:146", after := #[{ on := 13, ground := Ground.data }, { on := 10, ground := Ground.guard }], guard := some (10, false) }) (v := ?_) rfl (by kernel_rfl) (by kernel_rfl) (by kernel_rfl) (fun _ _ _ h => h) (Or.inl ⟨by rfl, ?_⟩) (by assumption) ?_
  rotate_left
  · (intro w_ hS_; (try dsimp only at hS_); go_simp; try with_reducible rfl)
  try simp only [Act.put, List.setIfInBounds_toArray, List.set_cons_zero, List.set_cons_succ]
  refine wpAnyH_take (i := 15) (oi := { dst := some 47, op := Op.call { callee := Callee.builtin Builtin.len, args := #[Operand.tmp 46], argTypes := #[22] }, type := 3, pos := "law.go:146", after := #[{ on := 14, ground := Ground.data }, { on := 10, ground := Ground.guard }], guard := some (10, false) }) (v := ?_) rfl (by kernel_rfl) (by kernel_rfl) (by kernel_rfl) (fun _ _ _ h => h) (Or.inl ⟨by rfl, ?_⟩) (by assumption) ?_
  rotate_left
  · (intro w_ hS_; (try dsimp only at hS_); go_simp; try with_reducible rfl)
  try simp only [Act.put, List.setIfInBounds_toArray, List.set_cons_zero, List.set_cons_succ]
  refine wpAnyH_take (i := 16) (oi := { dst := some 48, op := Op.move (Operand.tmp 0), type := 3, pos := "law.go:146", after := #[{ on := 10, ground := Ground.guard }], guard := some (10, false) }) (v := ?_) rfl (by kernel_rfl) (by kernel_rfl) (by kernel_rfl) (fun _ _ _ h => h) (Or.inl ⟨by rfl, ?_⟩) (by assumption) ?_
  rotate_left
  · (intro w_ hS_; (try dsimp only at hS_); go_simp; try with_reducible rfl)
  try simp only [Act.put, List.setIfInBounds_toArray, List.set_cons_zero, List.set_cons_succ]
  refine wpAnyH_take (i := 17) (oi := { dst := some 49, op := Op.binOp BinOp.neq 3 (Operand.tmp 47) (Operand.tmp 48) 3, type := 4, pos := "law.go:146", after := #[{ on := 15, ground := Ground.data }, { on := 16, ground := Ground.data }, { on := 10, ground := Ground.guard }], guard := some (10, false) }) (v := ?_) rfl (by kernel_rfl) (by kernel_rfl) (by kernel_rfl) (fun _ _ _ h => h) (Or.inl ⟨by rfl, ?_⟩) (by assumption) ?_
  rotate_left
  · (intro w_ hS_; (try dsimp only at hS_); go_simp; try with_reducible rfl)
  try simp only [Act.put, List.setIfInBounds_toArray, List.set_cons_zero, List.set_cons_succ]
  refine wpAnyH_take (i := 18) (oi := { dst := some 50, op := Op.pick (Operand.tmp 42) (Operand.const (Value.bool true)) (Operand.tmp 49), type := 4, pos := "law.go:146", after := #[{ on := 10, ground := Ground.data }, { on := 17, ground := Ground.data }], guard := none }) (v := ?_) rfl (by kernel_rfl) (by kernel_rfl) (by kernel_rfl) (fun _ _ _ h => h) (Or.inl ⟨by rfl, ?_⟩) (by assumption) ?_
  rotate_left
  · (intro w_ hS_; (try dsimp only at hS_); go_simp; try with_reducible rfl)
  try simp only [Act.put, List.setIfInBounds_toArray, List.set_cons_zero, List.set_cons_succ]
  refine wpAnyH_take (i := 19) (oi := { dst := some 51, op := Op.move (Operand.tmp 50), type := 4, pos := "law.go:146", after := #[{ on := 18, ground := Ground.data }, { on := 10, ground := Ground.chain }], guard := none }) (v := ?_) rfl (by kernel_rfl) (by kernel_rfl) (by kernel_rfl) (fun _ _ _ h => h) (Or.inl ⟨by rfl, ?_⟩) (by assumption) ?_
  rotate_left
  · (intro w_ hS_; (try dsimp only at hS_); go_simp; try with_reducible rfl)
  try simp only [Act.put, List.setIfInBounds_toArray, List.set_cons_zero, List.set_cons_succ]
  refine wpAnyH_take (i := 20) (oi := { dst := some 52, op := Op.move (Operand.tmp 6), type := 24, pos := "law.go:146", after := #[{ on := 19, ground := Ground.guard }], guard := some (19, false) }) (v := ?_) rfl (by kernel_rfl) (by kernel_rfl) (by kernel_rfl) (fun _ _ _ h => h) (Or.inl ⟨by rfl, ?_⟩) (by assumption) ?_
  rotate_left
  · (intro w_ hS_; (try dsimp only at hS_); go_simp; try with_reducible rfl)
  try simp only [Act.put, List.setIfInBounds_toArray, List.set_cons_zero, List.set_cons_succ]
  refine wpAnyH_take (i := 21) (oi := { dst := some 53, op := Op.nilCheck (Operand.tmp 52), type := 0, pos := "law.go:146", after := #[{ on := 20, ground := Ground.data }, { on := 19, ground := Ground.guard }], guard := some (19, false) }) (v := ?_) rfl (by kernel_rfl) (by kernel_rfl) (by kernel_rfl) (fun _ _ _ h => h) (Or.inl ⟨by rfl, ?_⟩) (by assumption) ?_
  rotate_left
  · (intro w_ hS_; (try dsimp only at hS_); go_simp; try with_reducible rfl)
  try simp only [Act.put, List.setIfInBounds_toArray, List.set_cons_zero, List.set_cons_succ]
  refine wpAnyH_take (i := 22) (oi := { dst := some 54, op := Op.fieldAddr 37 (Operand.tmp 53) 0, type := 0, pos := "law.go:146", after := #[{ on := 21, ground := Ground.data }, { on := 19, ground := Ground.guard }], guard := some (19, false) }) (v := ?_) rfl (by kernel_rfl) (by kernel_rfl) (by kernel_rfl) (fun _ _ _ h => h) (Or.inl ⟨by rfl, ?_⟩) (by assumption) ?_
  rotate_left
  · (intro w_ hS_; (try dsimp only at hS_); go_simp; try with_reducible rfl)
  try simp only [Act.put, List.setIfInBounds_toArray, List.set_cons_zero, List.set_cons_succ]
  refine wpAnyH_take (i := 23) (oi := { dst := some 55, op := Op.load 35 (Operand.tmp 54), type := 35, pos := "law.go:146", after := #[{ on := 22, ground := Ground.data }, { on := 19, ground := Ground.guard }], guard := some (19, false) }) (v := ?_) rfl (by kernel_rfl) (by kernel_rfl) (by kernel_rfl) (fun _ _ _ h => h) (Or.inl ⟨by rfl, ?_⟩) (by assumption) ?_
  rotate_left
  · (intro w_ hS_; (try dsimp only at hS_); go_simp; try with_reducible rfl)
  try simp only [Act.put, List.setIfInBounds_toArray, List.set_cons_zero, List.set_cons_succ]
  refine wpAnyH_ready (rs := [24]) (by kernel_rfl) (by simp) ?_
  refine AllReadyH.cons (o := { dst := some 56, op := Op.call { callee := Callee.value (Operand.func 13), args := #[], argTypes := #[] }, type := 35, pos := "law.go:146", after := #[{ on := 19, ground := Ground.chain }, { on := 19, ground := Ground.guard }], guard := some (19, false) }) rfl (fun K hK => ?_) AllReadyH.nil
  go_simp
  (have hq_ := hHeld; (try dsimp only at hq_); go_split_ands)
  refine (New_c _).mono ?_
  rintro e w4 ⟨rfl, hb⟩
  refine hK.out _ _ ?_ (fun hHeld => ?_)
  · (go_split_ands; exact ⟨rk1 (by assumption) hb, rk2 (by assumption) (by assumption) hb, rk1 (by assumption) hb, rk2 (by assumption) (by assumption) hb, bk (by assumption) (Below.size (by assumption)) hb⟩)
  clear hK K
  try simp only [Act.put, List.setIfInBounds_toArray, List.set_cons_zero, List.set_cons_succ]
  refine wpAnyH_take (i := 25) (oi := { dst := some 57, op := Op.binOp BinOp.neq 35 (Operand.tmp 55) (Operand.tmp 56) 35, type := 4, pos := "law.go:146", after := #[{ on := 23, ground := Ground.data }, { on := 24, ground := Ground.data }, { on := 19, ground := Ground.guard }], guard := some (19, false) }) (v := ?_) rfl (by kernel_rfl) (by kernel_rfl) (by kernel_rfl) (fun _ _ _ h => h) (Or.inl ⟨by rfl, ?_⟩) (by assumption) ?_
  rotate_left
  · (intro w_ hS_; (try dsimp only at hS_); go_simp; try with_reducible rfl)
  try simp only [Act.put, List.setIfInBounds_toArray, List.set_cons_zero, List.set_cons_succ]
  refine wpAnyH_take (i := 26) (oi := { dst := some 58, op := Op.pick (Operand.tmp 51) (Operand.const (Value.bool true)) (Operand.tmp 57), type := 4, pos := "law.go:146", after := #[{ on := 19, ground := Ground.data }, { on := 25, ground := Ground.data }], guard := none }) (v := ?_) rfl (by kernel_rfl) (by kernel_rfl) (by kernel_rfl) (fun _ _ _ h => h) (Or.inl ⟨by rfl, ?_⟩) (by assumption) ?_
  rotate_left
  · (intro w_ hS_; (try dsimp only at hS_); go_simp; try with_reducible rfl)
  try simp only [Act.put, List.setIfInBounds_toArray, List.set_cons_zero, List.set_cons_succ]
  refine wpAnyH_take (i := 27) (oi := { dst := some 59, op := Op.move (Operand.tmp 58), type := 4, pos := "law.go:146", after := #[{ on := 26, ground := Ground.data }, { on := 24, ground := Ground.chain }], guard := none }) (v := ?_) rfl (by kernel_rfl) (by kernel_rfl) (by kernel_rfl) (fun _ _ _ h => h) (Or.inl ⟨by rfl, ?_⟩) (by assumption) ?_
  rotate_left
  · (intro w_ hS_; (try dsimp only at hS_); go_simp; try with_reducible rfl)
  try simp only [Act.put, List.setIfInBounds_toArray, List.set_cons_zero, List.set_cons_succ]
  refine wpAnyH_take (i := 28) (oi := { dst := some 60, op := Op.move (Operand.tmp 6), type := 24, pos := "law.go:146", after := #[{ on := 27, ground := Ground.guard }], guard := some (27, false) }) (v := ?_) rfl (by kernel_rfl) (by kernel_rfl) (by kernel_rfl) (fun _ _ _ h => h) (Or.inl ⟨by rfl, ?_⟩) (by assumption) ?_
  rotate_left
  · (intro w_ hS_; (try dsimp only at hS_); go_simp; try with_reducible rfl)
  try simp only [Act.put, List.setIfInBounds_toArray, List.set_cons_zero, List.set_cons_succ]
  refine wpAnyH_take (i := 29) (oi := { dst := some 61, op := Op.nilCheck (Operand.tmp 60), type := 0, pos := "law.go:146", after := #[{ on := 28, ground := Ground.data }, { on := 27, ground := Ground.guard }], guard := some (27, false) }) (v := ?_) rfl (by kernel_rfl) (by kernel_rfl) (by kernel_rfl) (fun _ _ _ h => h) (Or.inl ⟨by rfl, ?_⟩) (by assumption) ?_
  rotate_left
  · (intro w_ hS_; (try dsimp only at hS_); go_simp; try with_reducible rfl)
  try simp only [Act.put, List.setIfInBounds_toArray, List.set_cons_zero, List.set_cons_succ]
  refine wpAnyH_take (i := 30) (oi := { dst := some 62, op := Op.fieldAddr 37 (Operand.tmp 61) 2, type := 0, pos := "law.go:146", after := #[{ on := 29, ground := Ground.data }, { on := 27, ground := Ground.guard }], guard := some (27, false) }) (v := ?_) rfl (by kernel_rfl) (by kernel_rfl) (by kernel_rfl) (fun _ _ _ h => h) (Or.inl ⟨by rfl, ?_⟩) (by assumption) ?_
  rotate_left
  · (intro w_ hS_; (try dsimp only at hS_); go_simp; try with_reducible rfl)
  try simp only [Act.put, List.setIfInBounds_toArray, List.set_cons_zero, List.set_cons_succ]
  refine wpAnyH_take (i := 31) (oi := { dst := some 63, op := Op.load 3 (Operand.tmp 62), type := 3, pos := "law.go:146", after := #[{ on := 30, ground := Ground.data }, { on := 27, ground := Ground.guard }], guard := some (27, false) }) (v := ?_) rfl (by kernel_rfl) (by kernel_rfl) (by kernel_rfl) (fun _ _ _ h => h) (Or.inl ⟨by rfl, ?_⟩) (by assumption) ?_
  rotate_left
  · (intro w_ hS_; (try dsimp only at hS_); go_simp; try with_reducible rfl)
  try simp only [Act.put, List.setIfInBounds_toArray, List.set_cons_zero, List.set_cons_succ]
  refine wpAnyH_take (i := 32) (oi := { dst := some 64, op := Op.binOp BinOp.neq 3 (Operand.tmp 63) (Operand.const (Value.int IntKind.i64 0)) 3, type := 4, pos := "law.go:146", after := #[{ on := 31, ground := Ground.data }, { on := 27, ground := Ground.guard }], guard := some (27, false) }) (v := ?_) rfl (by kernel_rfl) (by kernel_rfl) (by kernel_rfl) (fun _ _ _ h => h) (Or.inl ⟨by rfl, ?_⟩) (by assumption) ?_
  rotate_left
  · (intro w_ hS_; (try dsimp only at hS_); go_simp; try with_reducible rfl)
  try simp only [Act.put, List.setIfInBounds_toArray, List.set_cons_zero, List.set_cons_succ]
  refine wpAnyH_take (i := 33) (oi := { dst := some 65, op := Op.pick (Operand.tmp 59) (Operand.const (Value.bool true)) (Operand.tmp 64), type := 4, pos := "law.go:146", after := #[{ on := 27, ground := Ground.data }, { on := 32, ground := Ground.data }], guard := none }) (v := ?_) rfl (by kernel_rfl) (by kernel_rfl) (by kernel_rfl) (fun _ _ _ h => h) (Or.inl ⟨by rfl, ?_⟩) (by assumption) ?_
  rotate_left
  · (intro w_ hS_; (try dsimp only at hS_); go_simp; try with_reducible rfl)
  try simp only [Act.put, List.setIfInBounds_toArray, List.set_cons_zero, List.set_cons_succ]
  refine wpAnyH_take (i := 34) (oi := { dst := some 66, op := Op.move (Operand.tmp 65), type := 4, pos := "law.go:146", after := #[{ on := 33, ground := Ground.data }, { on := 27, ground := Ground.chain }], guard := none }) (v := ?_) rfl (by kernel_rfl) (by kernel_rfl) (by kernel_rfl) (fun _ _ _ h => h) (Or.inl ⟨by rfl, ?_⟩) (by assumption) ?_
  rotate_left
  · (intro w_ hS_; (try dsimp only at hS_); go_simp; try with_reducible rfl)
  try simp only [Act.put, List.setIfInBounds_toArray, List.set_cons_zero, List.set_cons_succ]
  refine wpAnyH_take (i := 35) (oi := { dst := some 67, op := Op.move (Operand.tmp 6), type := 24, pos := "law.go:146", after := #[{ on := 34, ground := Ground.guard }], guard := some (34, false) }) (v := ?_) rfl (by kernel_rfl) (by kernel_rfl) (by kernel_rfl) (fun _ _ _ h => h) (Or.inl ⟨by rfl, ?_⟩) (by assumption) ?_
  rotate_left
  · (intro w_ hS_; (try dsimp only at hS_); go_simp; try with_reducible rfl)
  try simp only [Act.put, List.setIfInBounds_toArray, List.set_cons_zero, List.set_cons_succ]
  refine wpAnyH_take (i := 36) (oi := { dst := some 68, op := Op.nilCheck (Operand.tmp 67), type := 0, pos := "law.go:146", after := #[{ on := 35, ground := Ground.data }, { on := 34, ground := Ground.guard }], guard := some (34, false) }) (v := ?_) rfl (by kernel_rfl) (by kernel_rfl) (by kernel_rfl) (fun _ _ _ h => h) (Or.inl ⟨by rfl, ?_⟩) (by assumption) ?_
  rotate_left
  · (intro w_ hS_; (try dsimp only at hS_); go_simp; try with_reducible rfl)
  try simp only [Act.put, List.setIfInBounds_toArray, List.set_cons_zero, List.set_cons_succ]
  refine wpAnyH_take (i := 37) (oi := { dst := some 69, op := Op.fieldAddr 37 (Operand.tmp 68) 1, type := 0, pos := "law.go:146", after := #[{ on := 36, ground := Ground.data }, { on := 34, ground := Ground.guard }], guard := some (34, false) }) (v := ?_) rfl (by kernel_rfl) (by kernel_rfl) (by kernel_rfl) (fun _ _ _ h => h) (Or.inl ⟨by rfl, ?_⟩) (by assumption) ?_
  rotate_left
  · (intro w_ hS_; (try dsimp only at hS_); go_simp; try with_reducible rfl)
  try simp only [Act.put, List.setIfInBounds_toArray, List.set_cons_zero, List.set_cons_succ]
  refine wpAnyH_take (i := 38) (oi := { dst := some 70, op := Op.load 22 (Operand.tmp 69), type := 22, pos := "law.go:146", after := #[{ on := 37, ground := Ground.data }, { on := 34, ground := Ground.guard }], guard := some (34, false) }) (v := ?_) rfl (by kernel_rfl) (by kernel_rfl) (by kernel_rfl) (fun _ _ _ h => h) (Or.inl ⟨by rfl, ?_⟩) (by assumption) ?_
  rotate_left
  · (intro w_ hS_; (try dsimp only at hS_); go_simp; try with_reducible rfl)
  try simp only [Act.put, List.setIfInBounds_toArray, List.set_cons_zero, List.set_cons_succ]
  refine wpAnyH_ready (rs := [39]) (by kernel_rfl) (by simp) ?_
  refine AllReadyH.cons (o := { dst := some 71, op := Op.call { callee := Callee.value (Operand.func 14), args := #[Operand.tmp 70], argTypes := #[22] }, type := 3, pos := "law.go:146", after := #[{ on := 38, ground := Ground.data }, { on := 34, ground := Ground.chain }, { on := 34, ground := Ground.guard }], guard := some (34, false) }) rfl (fun K hK => ?_) AllReadyH.nil
  go_simp
  (have hq_ := hHeld; (try dsimp only at hq_); go_split_ands)
  refine (used0 h2 (by assumption) (by assumption)).mono ?_
  rintro e w4 ⟨rfl, hb⟩
  refine hK.out _ _ ?_ (fun hHeld => ?_)
  · (go_split_ands; exact ⟨rk1 (by assumption) hb, rk2 (by assumption) (by assumption) hb, rk1 (by assumption) hb, rk2 (by assumption) (by assumption) hb, bk (by assumption) (Below.size (by assumption)) hb⟩)
  clear hK K
  try simp only [Act.put, List.setIfInBounds_toArray, List.set_cons_zero, List.set_cons_succ]
  refine wpAnyH_take (i := 40) (oi := { dst := some 72, op := Op.binOp BinOp.neq 3 (Operand.tmp 71) (Operand.const (Value.int IntKind.i64 0)) 3, type := 4, pos := "law.go:146", after := #[{ on := 39, ground := Ground.data }, { on := 34, ground := Ground.guard }], guard := some (34, false) }) (v := ?_) rfl (by kernel_rfl) (by kernel_rfl) (by kernel_rfl) (fun _ _ _ h => h) (Or.inl ⟨by rfl, ?_⟩) (by assumption) ?_
  rotate_left
  · (intro w_ hS_; (try dsimp only at hS_); go_simp; try with_reducible rfl)
  try simp only [Act.put, List.setIfInBounds_toArray, List.set_cons_zero, List.set_cons_succ]
  refine wpAnyH_take (i := 41) (oi := { dst := some 73, op := Op.pick (Operand.tmp 66) (Operand.const (Value.bool true)) (Operand.tmp 72), type := 4, pos := "law.go:146", after := #[{ on := 34, ground := Ground.data }, { on := 40, ground := Ground.data }], guard := none }) (v := ?_) rfl (by kernel_rfl) (by kernel_rfl) (by kernel_rfl) (fun _ _ _ h => h) (Or.inl ⟨by rfl, ?_⟩) (by assumption) ?_
  rotate_left
  · (intro w_ hS_; (try dsimp only at hS_); go_simp; try with_reducible rfl)
  try simp only [Act.put, List.setIfInBounds_toArray, List.set_cons_zero, List.set_cons_succ]
  refine wpAnyH_done (by kernel_rfl) ?_ _
  (try dsimp only at hHeld)
  go_split_ands
  go_wp2_with fail
  refine (HR.out _ (by assumption)).mono ?_
  rintro e v2 ⟨rfl, hb2⟩
  obtain ⟨V_2, V_2'⟩ : Row v2 gv #[.int .i64 0, .int .i64 0, .int .i64 0, .bool false, .bool false, .bool false, .int .u32 0, .int .u32 0, .slice (some ⟨lv, 0, none⟩) n n, .int .i64 0] := Row.step (by go_simp) (by go_simp) hb2
  obtain ⟨L_2, L_2'⟩ : Row v2 lv (FA (List.replicate n z54)) := Row.step (by go_simp) (by go_simp) hb2
  have hB_2 : Below w.heap.size w v2 := bk (by go_simp) (by first | (go_simp; done) | (go_simp; omega) | exact Below.size (by assumption)) hb2
  clear hb2
  have hz_2 : w.heap.size ≤ v2.heap.size := hB_2.size
  have hl_V_2 := isRow.lt V_2
  have ne_V_2_0 : ¬ gv = v2.heap.size := by omega
  have en_V_2_0 : ¬ v2.heap.size = gv := by omega
  have hl_L_2 := isRow.lt L_2
  have ne_L_2_0 : ¬ lv = v2.heap.size := by omega
  have en_L_2_0 : ¬ v2.heap.size = lv := by omega
  go_wp2_with fail
  refine (HL.out gv lv n12 gw0 _ (by go_simp) (by go_simp) (by go_simp) (by go_simp) (by go_simp)).mono ?_
  rintro e v3 ⟨rfl, ⟨V_3, V_3'⟩, ⟨L_3, L_3'⟩, hA3⟩
  have hB_3 : Below w.heap.size w v3 := hA3.below (by go_simp) (by first | omega | (go_simp; done) | (go_simp; omega)) (by first | omega | (go_simp; done) | (go_simp; omega)) (by first | (go_simp; done) | (go_simp; omega) | exact Below.size (by assumption))
  clear V_2 V_2' L_2 L_2' hB_2 hA3
  have hz_3 : w.heap.size ≤ v3.heap.size := hB_3.size
  have hl_V_3 := isRow.lt V_3
  have ne_V_3_0 : ¬ gv = v3.heap.size := by omega
  have en_V_3_0 : ¬ v3.heap.size = gv := by omega
  have hl_L_3 := isRow.lt L_3
  have ne_L_3_0 : ¬ lv = v3.heap.size := by omega
  have en_L_3_0 : ¬ v3.heap.size = lv := by omega
  go_wp2_with fail
  refine (ack_off gv lv n (List.replicate n z54) HX.out h2 0 n12 _ (by go_simp) (by go_simp) (by go_simp) (by go_simp)).mono ?_
  rintro e v4 ⟨rfl, ⟨V_4, V_4'⟩, ⟨L_4, L_4'⟩, hA4⟩
  have hB_4 : Below w.heap.size w v4 := hA4.below (by go_simp) (by first | omega | (go_simp; done) | (go_simp; omega)) (by first | omega | (go_simp; done) | (go_simp; omega)) (by first | (go_simp; done) | (go_simp; omega) | exact Below.size (by assumption))
  clear V_3 V_3' L_3 L_3' hB_3 hA4
  have hz_4 : w.heap.size ≤ v4.heap.size := hB_4.size
  have hl_V_4 := isRow.lt V_4
  have ne_V_4_0 : ¬ gv = v4.heap.size := by omega
  have en_V_4_0 : ¬ v4.heap.size = gv := by omega
  have hl_L_4 := isRow.lt L_4
  have ne_L_4_0 : ¬ lv = v4.heap.size := by omega
  have en_L_4_0 : ¬ v4.heap.size = lv := by omega
  go_wp2_with fail
  refine (ack_off gv lv n (List.replicate n z54) HX.out h2 1 n12 _ (by go_simp) (by go_simp) (by go_simp) (by go_simp)).mono ?_
  rintro e v5 ⟨rfl, ⟨V_5, V_5'⟩, ⟨L_5, L_5'⟩, hA5⟩
  have hB_5 : Below w.heap.size w v5 := hA5.below (by go_simp) (by first | omega | (go_simp; done) | (go_simp; omega)) (by first | omega | (go_simp; done) | (go_simp; omega)) (by first | (go_simp; done) | (go_simp; omega) | exact Below.size (by assumption))
  clear V_4 V_4' L_4 L_4' hB_4 hA5
  have hz_5 : w.heap.size ≤ v5.heap.size := hB_5.size
  have hl_V_5 := isRow.lt V_5
  have ne_V_5_0 : ¬ gv = v5.heap.size := by omega
  have en_V_5_0 : ¬ v5.heap.size = gv := by omega
  have hl_L_5 := isRow.lt L_5
  have ne_L_5_0 : ¬ lv = v5.heap.size := by omega
  have en_L_5_0 : ¬ v5.heap.size = lv := by omega
  go_wp2
  go_ret
  exact ⟨rfl, by go_simp⟩
set_option maxRecDepth 100000 in
set_option maxHeartbeats 4000000 in
theorem news_le (w : World) (A : Option Addr) (cA : Nat) (ls : List S54) (hC : Kd.C k54 w A ls.length ls) (hcA : ls.length ≤ cA) (n : Nat) (h1 : 1 ≤ n) (h2 : n ≤ 16) (rr : Int) (hrr : crierref20_Right.f 400 ls = some rr) (hge : ¬ n < ls.length) (LY : List S54) (hlx0 : LY.length = n) (hlo : loadN n ls = rr ∧ loadXs n (List.replicate n z54) ls = LY) :
    Calls Try.prog 3 #[.int .i64 (n : Int), .slice A ls.length cA] w fun e w' => e = .returned (.bool true) ∧ Below w.heap.size w w' := by
  have HN := Lib.hid (fun W : World => VNew_c n h1 h2 W)
  have hRl : ∀ W, Below w.heap.size w W → Calls Try.prog 15 #[.slice A ls.length cA] W fun e w' => e = .returned (.int .i64 rr) ∧ Below W.heap.size W w' := fun W qb => crierref20_Right.calls 400 A cA ls rr W (Kd.C_below hC qb) hcA hrr
  have HR := Lib.hid hRl
  have hLd : ∀ (gv lv : Nat), ¬ gv = lv → w.heap.size ≤ lv → ∀ W, Below w.heap.size w W → isRow W gv → rowAt W gv = #[.int .i64 0, .int .i64 0, .int .i64 0, .bool false, .bool false, .bool false, .int .u32 0, .int .u32 0, .slice (some ⟨lv, 0, none⟩) n n, .int .i64 0] → isRow W lv → rowAt W lv = FA (List.replicate n z54) → Calls Try.prog 16 #[.pointer (some ⟨gv, 0, none⟩), .slice A ls.length cA] W fun e w' => e = .returned (.int .i64 rr) ∧ Row w' gv #[.int .i64 0, .int .i64 0, .int .i64 0, .bool false, .bool false, .bool false, .int .u32 0, .int .u32 0, .slice (some ⟨lv, 0, none⟩) n n, .int .i64 0] ∧ Row w' lv (FA LY) ∧ Aside2 gv lv W w' := fun gv lv n12 gw2 W qb q1 q2 q3 q4 => by
    have hS : SOk n ⟨0, 0, 0, false, false, false, 0, 0, (List.replicate n z54), 0⟩ := ⟨List.length_replicate, h2, h1, rep_st n, Int.le_refl 0, by show (0 : Int) ≤ 4611686018427387904; omega⟩
    have q := vload_c n gv lv ⟨0, 0, 0, false, false, false, 0, 0, (List.replicate n z54), 0⟩ hS n12 W q3 q4 A cA ls (Kd.C_below hC qb) hcA (fun ad e hn => by have q0 := blk_lt hC ad e hn; have q5 := qb.size; exact ⟨by omega, by omega⟩) q1 q2
    unfold loadS at q
    dsimp only at q
    rw [hlo.1, hlo.2] at q
    exact q
  have HL := Lib.hid hLd
  have hlx : (LY).length = n := hlx0
  have HX := Lib.hid hlx
  have e1 : ¬ (n : Int) < 1 := by omega
  have e2 : ¬ 16 < (n : Int) := by omega
  have e3 : ¬ (n : Int) < (ls.length : Int) := by omega
  clear hRl hLd hlx hC hrr hlx0 hlo
  go_enter Try.func3, Try.ntmps3
  have hB_0 : Below w.heap.size w w := Below.refl _ _
  go_wp2_with fail
  refine (awake_c _).mono ?_
  rintro e v1 ⟨rfl, hb1⟩
  have hB_1 : Below w.heap.size w v1 := bk (by go_simp) (by first | (go_simp; done) | (go_simp; omega) | exact Below.size (by assumption)) hb1
  clear hB_0 hb1
  have hz_1 : w.heap.size ≤ v1.heap.size := hB_1.size
  go_wp2_with fail
  refine (HN.out _).mono ?_
  rintro e v0 ⟨rfl, hV0, hL0, hb0⟩
  have hB0 : Below w.heap.size w v0 := bk hB_1 hB_1.size hb0
  have gw0 := hB_1.size
  generalize hgv : v1.heap.size + 1 = gv at *
  generalize hlv : v1.heap.size = lv at *
  obtain ⟨V0, V0'⟩ : Row v0 gv #[.int .i64 0, .int .i64 0, .int .i64 0, .bool false, .bool false, .bool false, .int .u32 0, .int .u32 0, .slice (some ⟨lv, 0, none⟩) n n, .int .i64 0] := hV0
  obtain ⟨L0, L0'⟩ : Row v0 lv (FA (List.replicate n z54)) := hL0
  have n12 : ¬ gv = lv := by omega
  have n21 : ¬ lv = gv := by omega
  have gw1 : w.heap.size ≤ gv := by omega
  clear hb0 hB_1 HN hgv hlv
  go_wp2_with fail
  refine wp_named (fun W_ => (isRow W_ gv ∧ rowAt W_ gv = #[.int .i64 0, .int .i64 0, .int .i64 0, .bool false, .bool false, .bool false, .int .u32 0, .int .u32 0, .slice (some ⟨lv, 0, none⟩) n n, .int .i64 0]) ∧ (isRow W_ lv ∧ rowAt W_ lv = (FA (List.replicate n z54))) ∧ Below w.heap.size w W_) (by refine ⟨⟨by go_simp, by go_simp⟩, ⟨by go_simp, by go_simp⟩, by go_simp⟩) ?_
  rintro v1 ⟨⟨V_1, V_1'⟩, ⟨L_1, L_1'⟩, hB_1⟩
  clear V0 V0' L0 L0' hB0
  have hz_1 : w.heap.size ≤ v1.heap.size := hB_1.size
  have hl_V_1 := isRow.lt V_1
  have ne_V_1_0 : ¬ gv = v1.heap.size := by omega
  have en_V_1_0 : ¬ v1.heap.size = gv := by omega
  have hl_L_1 := isRow.lt L_1
  have ne_L_1_0 : ¬ lv = v1.heap.size := by omega
  have en_L_1_0 : ¬ v1.heap.size = lv := by omega
  refine wp_region_held_drew (S := fun w' => isRow w' gv ∧ rowAt w' gv = #[.int .i64 0, .int .i64 0, .int .i64 0, .bool false, .bool false, .bool false, .int .u32 0, .int .u32 0, .slice (some ⟨lv, 0, none⟩) n n, .int .i64 0] ∧ isRow w' lv ∧ rowAt w' lv = (FA (List.replicate n z54)) ∧ Below w.heap.size w w') (by kernel_rfl) ⟨V_1, V_1', L_1, L_1', below_drew0 hB_1⟩ (fun hHeld => ?_)
  refine wpAnyH_take (i := 0) (oi := { dst := some 32, op := Op.move (Operand.tmp 5), type := 4, pos := "law.go:146", after := #[], guard := none }) (v := ?_) rfl (by kernel_rfl) (by kernel_rfl) (by kernel_rfl) (fun _ _ _ h => h) (Or.inl ⟨by rfl, ?_⟩) (by assumption) ?_
  rotate_left
  · (intro w_ hS_; (try dsimp only at hS_); go_simp; try with_reducible rfl)
  try simp only [Act.put, List.setIfInBounds_toArray, List.set_cons_zero, List.set_cons_succ]
  refine wpAnyH_take (i := 1) (oi := { dst := some 33, op := Op.unOp UnOp.not 4 (Operand.tmp 32), type := 4, pos := "law.go:146", after := #[{ on := 0, ground := Ground.data }], guard := none }) (v := ?_) rfl (by kernel_rfl) (by kernel_rfl) (by kernel_rfl) (fun _ _ _ h => h) (Or.inl ⟨by rfl, ?_⟩) (by assumption) ?_
  rotate_left
  · (intro w_ hS_; (try dsimp only at hS_); go_simp; try with_reducible rfl)
  try simp only [Act.put, List.setIfInBounds_toArray, List.set_cons_zero, List.set_cons_succ]
  refine wpAnyH_take (i := 2) (oi := { dst := some 34, op := Op.move (Operand.tmp 33), type := 4, pos := "law.go:146", after := #[{ on := 1, ground := Ground.data }], guard := none }) (v := ?_) rfl (by kernel_rfl) (by kernel_rfl) (by kernel_rfl) (fun _ _ _ h => h) (Or.inl ⟨by rfl, ?_⟩) (by assumption) ?_
  rotate_left
  · (intro w_ hS_; (try dsimp only at hS_); go_simp; try with_reducible rfl)
  try simp only [Act.put, List.setIfInBounds_toArray, List.set_cons_zero, List.set_cons_succ]
  refine wpAnyH_take (i := 3) (oi := { dst := some 35, op := Op.move (Operand.tmp 6), type := 24, pos := "law.go:146", after := #[{ on := 2, ground := Ground.guard }], guard := some (2, false) }) (v := ?_) rfl (by kernel_rfl) (by kernel_rfl) (by kernel_rfl) (fun _ _ _ h => h) (Or.inl ⟨by rfl, ?_⟩) (by assumption) ?_
  rotate_left
  · (intro w_ hS_; (try dsimp only at hS_); go_simp; try with_reducible rfl)
  try simp only [Act.put, List.setIfInBounds_toArray, List.set_cons_zero, List.set_cons_succ]
  refine wpAnyH_take (i := 4) (oi := { dst := some 36, op := Op.binOp BinOp.eql 24 (Operand.tmp 35) (Operand.const (Value.pointer none)) 24, type := 4, pos := "law.go:146", after := #[{ on := 3, ground := Ground.data }, { on := 2, ground := Ground.guard }], guard := some (2, false) }) (v := ?_) rfl (by kernel_rfl) (by kernel_rfl) (by kernel_rfl) (fun _ _ _ h => h) (Or.inl ⟨by rfl, ?_⟩) (by assumption) ?_
  rotate_left
  · (intro w_ hS_; (try dsimp only at hS_); go_simp; try with_reducible rfl)
  try simp only [Act.put, List.setIfInBounds_toArray, List.set_cons_zero, List.set_cons_succ]
  refine wpAnyH_take (i := 5) (oi := { dst := some 37, op := Op.pick (Operand.tmp 34) (Operand.const (Value.bool true)) (Operand.tmp 36), type := 4, pos := "law.go:146", after := #[{ on := 2, ground := Ground.data }, { on := 4, ground := Ground.data }], guard := none }) (v := ?_) rfl (by kernel_rfl) (by kernel_rfl) (by kernel_rfl) (fun _ _ _ h => h) (Or.inl ⟨by rfl, ?_⟩) (by assumption) ?_
  rotate_left
  · (intro w_ hS_; (try dsimp only at hS_); go_simp; try with_reducible rfl)
  try simp only [Act.put, List.setIfInBounds_toArray, List.set_cons_zero, List.set_cons_succ]
  refine wpAnyH_take (i := 6) (oi := { dst := some 38, op := Op.move (Operand.tmp 37), type := 4, pos := "law.go:146", after := #[{ on := 5, ground := Ground.data }, { on := 2, ground := Ground.chain }], guard := none }) (v := ?_) rfl (by kernel_rfl) (by kernel_rfl) (by kernel_rfl) (fun _ _ _ h => h) (Or.inl ⟨by rfl, ?_⟩) (by assumption) ?_
  rotate_left
  · (intro w_ hS_; (try dsimp only at hS_); go_simp; try with_reducible rfl)
  try simp only [Act.put, List.setIfInBounds_toArray, List.set_cons_zero, List.set_cons_succ]
  refine wpAnyH_take (i := 7) (oi := { dst := some 39, op := Op.move (Operand.tmp 7), type := 25, pos := "law.go:146", after := #[{ on := 6, ground := Ground.guard }], guard := some (6, false) }) (v := ?_) rfl (by kernel_rfl) (by kernel_rfl) (by kernel_rfl) (fun _ _ _ h => h) (Or.inl ⟨by rfl, ?_⟩) (by assumption) ?_
  rotate_left
  · (intro w_ hS_; (try dsimp only at hS_); go_simp; try with_reducible rfl)
  try simp only [Act.put, List.setIfInBounds_toArray, List.set_cons_zero, List.set_cons_succ]
  refine wpAnyH_take (i := 8) (oi := { dst := some 40, op := Op.binOp BinOp.neq 25 (Operand.tmp 39) (Operand.const (Value.int IntKind.i64 0)) 25, type := 4, pos := "law.go:146", after := #[{ on := 7, ground := Ground.data }, { on := 6, ground := Ground.guard }], guard := some (6, false) }) (v := ?_) rfl (by kernel_rfl) (by kernel_rfl) (by kernel_rfl) (fun _ _ _ h => h) (Or.inl ⟨by rfl, ?_⟩) (by assumption) ?_
  rotate_left
  · (intro w_ hS_; (try dsimp only at hS_); go_simp; try with_reducible rfl)
  try simp only [Act.put, List.setIfInBounds_toArray, List.set_cons_zero, List.set_cons_succ]
  refine wpAnyH_take (i := 9) (oi := { dst := some 41, op := Op.pick (Operand.tmp 38) (Operand.const (Value.bool true)) (Operand.tmp 40), type := 4, pos := "law.go:146", after := #[{ on := 6, ground := Ground.data }, { on := 8, ground := Ground.data }], guard := none }) (v := ?_) rfl (by kernel_rfl) (by kernel_rfl) (by kernel_rfl) (fun _ _ _ h => h) (Or.inl ⟨by rfl, ?_⟩) (by assumption) ?_
  rotate_left
  · (intro w_ hS_; (try dsimp only at hS_); go_simp; try with_reducible rfl)
  try simp only [Act.put, List.setIfInBounds_toArray, List.set_cons_zero, List.set_cons_succ]
  refine wpAnyH_take (i := 10) (oi := { dst := some 42, op := Op.move (Operand.tmp 41), type := 4, pos := "law.go:146", after := #[{ on := 9, ground := Ground.data }, { on := 6, ground := Ground.chain }], guard := none }) (v := ?_) rfl (by kernel_rfl) (by kernel_rfl) (by kernel_rfl) (fun _ _ _ h => h) (Or.inl ⟨by rfl, ?_⟩) (by assumption) ?_
  rotate_left
  · (intro w_ hS_; (try dsimp only at hS_); go_simp; try with_reducible rfl)
  try simp only [Act.put, List.setIfInBounds_toArray, List.set_cons_zero, List.set_cons_succ]
  refine wpAnyH_take (i := 11) (oi := { dst := some 43, op := Op.move (Operand.tmp 6), type := 24, pos := "law.go:146", after := #[{ on := 10, ground := Ground.guard }], guard := some (10, false) }) (v := ?_) rfl (by kernel_rfl) (by kernel_rfl) (by kernel_rfl) (fun _ _ _ h => h) (Or.inl ⟨by rfl, ?_⟩) (by assumption) ?_
  rotate_left
  · (intro w_ hS_; (try dsimp only at hS_); go_simp; try with_reducible rfl)
  try simp only [Act.put, List.setIfInBounds_toArray, List.set_cons_zero, List.set_cons_succ]
  refine wpAnyH_take (i := 12) (oi := { dst := some 44, op := Op.nilCheck (Operand.tmp 43), type := 0, pos := "law.go:146", after := #[{ on := 11, ground := Ground.data }, { on := 10, ground := Ground.guard }], guard := some (10, false) }) (v := ?_) rfl (by kernel_rfl) (by kernel_rfl) (by kernel_rfl) (fun _ _ _ h => h) (Or.inl ⟨by rfl, ?_⟩) (by assumption) ?_
  rotate_left
  · (intro w_ hS_; (try dsimp only at hS_); go_simp; try with_reducible rfl)
  try simp only [Act.put, List.setIfInBounds_toArray, List.set_cons_zero, List.set_cons_succ]
  refine wpAnyH_take (i := 13) (oi := { dst := some 45, op := Op.fieldAddr 37 (Operand.tmp 44) 1, type := 0, pos := "law.go:146", after := #[{ on := 12, ground := Ground.data }, { on := 10, ground := Ground.guard }], guard := some (10, false) }) (v := ?_) rfl (by kernel_rfl) (by kernel_rfl) (by kernel_rfl) (fun _ _ _ h => h) (Or.inl ⟨by rfl, ?_⟩) (by assumption) ?_
  rotate_left
  · (intro w_ hS_; (try dsimp only at hS_); go_simp; try with_reducible rfl)
  try simp only [Act.put, List.setIfInBounds_toArray, List.set_cons_zero, List.set_cons_succ]
  refine wpAnyH_take (i := 14) (oi := { dst := some 46, op := Op.load 22 (Operand.tmp 45), type := 22, pos := "law.go:146", after := #[{ on := 13, ground := Ground.data }, { on := 10, ground := Ground.guard }], guard := some (10, false) }) (v := ?_) rfl (by kernel_rfl) (by kernel_rfl) (by kernel_rfl) (fun _ _ _ h => h) (Or.inl ⟨by rfl, ?_⟩) (by assumption) ?_
  rotate_left
  · (intro w_ hS_; (try dsimp only at hS_); go_simp; try with_reducible rfl)
  try simp only [Act.put, List.setIfInBounds_toArray, List.set_cons_zero, List.set_cons_succ]
  refine wpAnyH_take (i := 15) (oi := { dst := some 47, op := Op.call { callee := Callee.builtin Builtin.len, args := #[Operand.tmp 46], argTypes := #[22] }, type := 3, pos := "law.go:146", after := #[{ on := 14, ground := Ground.data }, { on := 10, ground := Ground.guard }], guard := some (10, false) }) (v := ?_) rfl (by kernel_rfl) (by kernel_rfl) (by kernel_rfl) (fun _ _ _ h => h) (Or.inl ⟨by rfl, ?_⟩) (by assumption) ?_
  rotate_left
  · (intro w_ hS_; (try dsimp only at hS_); go_simp; try with_reducible rfl)
  try simp only [Act.put, List.setIfInBounds_toArray, List.set_cons_zero, List.set_cons_succ]
  refine wpAnyH_take (i := 16) (oi := { dst := some 48, op := Op.move (Operand.tmp 0), type := 3, pos := "law.go:146", after := #[{ on := 10, ground := Ground.guard }], guard := some (10, false) }) (v := ?_) rfl (by kernel_rfl) (by kernel_rfl) (by kernel_rfl) (fun _ _ _ h => h) (Or.inl ⟨by rfl, ?_⟩) (by assumption) ?_
  rotate_left
  · (intro w_ hS_; (try dsimp only at hS_); go_simp; try with_reducible rfl)
  try simp only [Act.put, List.setIfInBounds_toArray, List.set_cons_zero, List.set_cons_succ]
  refine wpAnyH_take (i := 17) (oi := { dst := some 49, op := Op.binOp BinOp.neq 3 (Operand.tmp 47) (Operand.tmp 48) 3, type := 4, pos := "law.go:146", after := #[{ on := 15, ground := Ground.data }, { on := 16, ground := Ground.data }, { on := 10, ground := Ground.guard }], guard := some (10, false) }) (v := ?_) rfl (by kernel_rfl) (by kernel_rfl) (by kernel_rfl) (fun _ _ _ h => h) (Or.inl ⟨by rfl, ?_⟩) (by assumption) ?_
  rotate_left
  · (intro w_ hS_; (try dsimp only at hS_); go_simp; try with_reducible rfl)
  try simp only [Act.put, List.setIfInBounds_toArray, List.set_cons_zero, List.set_cons_succ]
  refine wpAnyH_take (i := 18) (oi := { dst := some 50, op := Op.pick (Operand.tmp 42) (Operand.const (Value.bool true)) (Operand.tmp 49), type := 4, pos := "law.go:146", after := #[{ on := 10, ground := Ground.data }, { on := 17, ground := Ground.data }], guard := none }) (v := ?_) rfl (by kernel_rfl) (by kernel_rfl) (by kernel_rfl) (fun _ _ _ h => h) (Or.inl ⟨by rfl, ?_⟩) (by assumption) ?_
  rotate_left
  · (intro w_ hS_; (try dsimp only at hS_); go_simp; try with_reducible rfl)
  try simp only [Act.put, List.setIfInBounds_toArray, List.set_cons_zero, List.set_cons_succ]
  refine wpAnyH_take (i := 19) (oi := { dst := some 51, op := Op.move (Operand.tmp 50), type := 4, pos := "law.go:146", after := #[{ on := 18, ground := Ground.data }, { on := 10, ground := Ground.chain }], guard := none }) (v := ?_) rfl (by kernel_rfl) (by kernel_rfl) (by kernel_rfl) (fun _ _ _ h => h) (Or.inl ⟨by rfl, ?_⟩) (by assumption) ?_
  rotate_left
  · (intro w_ hS_; (try dsimp only at hS_); go_simp; try with_reducible rfl)
  try simp only [Act.put, List.setIfInBounds_toArray, List.set_cons_zero, List.set_cons_succ]
  refine wpAnyH_take (i := 20) (oi := { dst := some 52, op := Op.move (Operand.tmp 6), type := 24, pos := "law.go:146", after := #[{ on := 19, ground := Ground.guard }], guard := some (19, false) }) (v := ?_) rfl (by kernel_rfl) (by kernel_rfl) (by kernel_rfl) (fun _ _ _ h => h) (Or.inl ⟨by rfl, ?_⟩) (by assumption) ?_
  rotate_left
  · (intro w_ hS_; (try dsimp only at hS_); go_simp; try with_reducible rfl)
  try simp only [Act.put, List.setIfInBounds_toArray, List.set_cons_zero, List.set_cons_succ]
  refine wpAnyH_take (i := 21) (oi := { dst := some 53, op := Op.nilCheck (Operand.tmp 52), type := 0, pos := "law.go:146", after := #[{ on := 20, ground := Ground.data }, { on := 19, ground := Ground.guard }], guard := some (19, false) }) (v := ?_) rfl (by kernel_rfl) (by kernel_rfl) (by kernel_rfl) (fun _ _ _ h => h) (Or.inl ⟨by rfl, ?_⟩) (by assumption) ?_
  rotate_left
  · (intro w_ hS_; (try dsimp only at hS_); go_simp; try with_reducible rfl)
  try simp only [Act.put, List.setIfInBounds_toArray, List.set_cons_zero, List.set_cons_succ]
  refine wpAnyH_take (i := 22) (oi := { dst := some 54, op := Op.fieldAddr 37 (Operand.tmp 53) 0, type := 0, pos := "law.go:146", after := #[{ on := 21, ground := Ground.data }, { on := 19, ground := Ground.guard }], guard := some (19, false) }) (v := ?_) rfl (by kernel_rfl) (by kernel_rfl) (by kernel_rfl) (fun _ _ _ h => h) (Or.inl ⟨by rfl, ?_⟩) (by assumption) ?_
  rotate_left
  · (intro w_ hS_; (try dsimp only at hS_); go_simp; try with_reducible rfl)
  try simp only [Act.put, List.setIfInBounds_toArray, List.set_cons_zero, List.set_cons_succ]
  refine wpAnyH_take (i := 23) (oi := { dst := some 55, op := Op.load 35 (Operand.tmp 54), type := 35, pos := "law.go:146", after := #[{ on := 22, ground := Ground.data }, { on := 19, ground := Ground.guard }], guard := some (19, false) }) (v := ?_) rfl (by kernel_rfl) (by kernel_rfl) (by kernel_rfl) (fun _ _ _ h => h) (Or.inl ⟨by rfl, ?_⟩) (by assumption) ?_
  rotate_left
  · (intro w_ hS_; (try dsimp only at hS_); go_simp; try with_reducible rfl)
  try simp only [Act.put, List.setIfInBounds_toArray, List.set_cons_zero, List.set_cons_succ]
  refine wpAnyH_ready (rs := [24]) (by kernel_rfl) (by simp) ?_
  refine AllReadyH.cons (o := { dst := some 56, op := Op.call { callee := Callee.value (Operand.func 13), args := #[], argTypes := #[] }, type := 35, pos := "law.go:146", after := #[{ on := 19, ground := Ground.chain }, { on := 19, ground := Ground.guard }], guard := some (19, false) }) rfl (fun K hK => ?_) AllReadyH.nil
  go_simp
  (have hq_ := hHeld; (try dsimp only at hq_); go_split_ands)
  refine (New_c _).mono ?_
  rintro e w4 ⟨rfl, hb⟩
  refine hK.out _ _ ?_ (fun hHeld => ?_)
  · (go_split_ands; exact ⟨rk1 (by assumption) hb, rk2 (by assumption) (by assumption) hb, rk1 (by assumption) hb, rk2 (by assumption) (by assumption) hb, bk (by assumption) (Below.size (by assumption)) hb⟩)
  clear hK K
  try simp only [Act.put, List.setIfInBounds_toArray, List.set_cons_zero, List.set_cons_succ]
  refine wpAnyH_take (i := 25) (oi := { dst := some 57, op := Op.binOp BinOp.neq 35 (Operand.tmp 55) (Operand.tmp 56) 35, type := 4, pos := "law.go:146", after := #[{ on := 23, ground := Ground.data }, { on := 24, ground := Ground.data }, { on := 19, ground := Ground.guard }], guard := some (19, false) }) (v := ?_) rfl (by kernel_rfl) (by kernel_rfl) (by kernel_rfl) (fun _ _ _ h => h) (Or.inl ⟨by rfl, ?_⟩) (by assumption) ?_
  rotate_left
  · (intro w_ hS_; (try dsimp only at hS_); go_simp; try with_reducible rfl)
  try simp only [Act.put, List.setIfInBounds_toArray, List.set_cons_zero, List.set_cons_succ]
  refine wpAnyH_take (i := 26) (oi := { dst := some 58, op := Op.pick (Operand.tmp 51) (Operand.const (Value.bool true)) (Operand.tmp 57), type := 4, pos := "law.go:146", after := #[{ on := 19, ground := Ground.data }, { on := 25, ground := Ground.data }], guard := none }) (v := ?_) rfl (by kernel_rfl) (by kernel_rfl) (by kernel_rfl) (fun _ _ _ h => h) (Or.inl ⟨by rfl, ?_⟩) (by assumption) ?_
  rotate_left
  · (intro w_ hS_; (try dsimp only at hS_); go_simp; try with_reducible rfl)
  try simp only [Act.put, List.setIfInBounds_toArray, List.set_cons_zero, List.set_cons_succ]
  refine wpAnyH_take (i := 27) (oi := { dst := some 59, op := Op.move (Operand.tmp 58), type := 4, pos := "law.go:146", after := #[{ on := 26, ground := Ground.data }, { on := 24, ground := Ground.chain }], guard := none }) (v := ?_) rfl (by kernel_rfl) (by kernel_rfl) (by kernel_rfl) (fun _ _ _ h => h) (Or.inl ⟨by rfl, ?_⟩) (by assumption) ?_
  rotate_left
  · (intro w_ hS_; (try dsimp only at hS_); go_simp; try with_reducible rfl)
  try simp only [Act.put, List.setIfInBounds_toArray, List.set_cons_zero, List.set_cons_succ]
  refine wpAnyH_take (i := 28) (oi := { dst := some 60, op := Op.move (Operand.tmp 6), type := 24, pos := "law.go:146", after := #[{ on := 27, ground := Ground.guard }], guard := some (27, false) }) (v := ?_) rfl (by kernel_rfl) (by kernel_rfl) (by kernel_rfl) (fun _ _ _ h => h) (Or.inl ⟨by rfl, ?_⟩) (by assumption) ?_
  rotate_left
  · (intro w_ hS_; (try dsimp only at hS_); go_simp; try with_reducible rfl)
  try simp only [Act.put, List.setIfInBounds_toArray, List.set_cons_zero, List.set_cons_succ]
  refine wpAnyH_take (i := 29) (oi := { dst := some 61, op := Op.nilCheck (Operand.tmp 60), type := 0, pos := "law.go:146", after := #[{ on := 28, ground := Ground.data }, { on := 27, ground := Ground.guard }], guard := some (27, false) }) (v := ?_) rfl (by kernel_rfl) (by kernel_rfl) (by kernel_rfl) (fun _ _ _ h => h) (Or.inl ⟨by rfl, ?_⟩) (by assumption) ?_
  rotate_left
  · (intro w_ hS_; (try dsimp only at hS_); go_simp; try with_reducible rfl)
  try simp only [Act.put, List.setIfInBounds_toArray, List.set_cons_zero, List.set_cons_succ]
  refine wpAnyH_take (i := 30) (oi := { dst := some 62, op := Op.fieldAddr 37 (Operand.tmp 61) 2, type := 0, pos := "law.go:146", after := #[{ on := 29, ground := Ground.data }, { on := 27, ground := Ground.guard }], guard := some (27, false) }) (v := ?_) rfl (by kernel_rfl) (by kernel_rfl) (by kernel_rfl) (fun _ _ _ h => h) (Or.inl ⟨by rfl, ?_⟩) (by assumption) ?_
  rotate_left
  · (intro w_ hS_; (try dsimp only at hS_); go_simp; try with_reducible rfl)
  try simp only [Act.put, List.setIfInBounds_toArray, List.set_cons_zero, List.set_cons_succ]
  refine wpAnyH_take (i := 31) (oi := { dst := some 63, op := Op.load 3 (Operand.tmp 62), type := 3, pos := "law.go:146", after := #[{ on := 30, ground := Ground.data }, { on := 27, ground := Ground.guard }], guard := some (27, false) }) (v := ?_) rfl (by kernel_rfl) (by kernel_rfl) (by kernel_rfl) (fun _ _ _ h => h) (Or.inl ⟨by rfl, ?_⟩) (by assumption) ?_
  rotate_left
  · (intro w_ hS_; (try dsimp only at hS_); go_simp; try with_reducible rfl)
  try simp only [Act.put, List.setIfInBounds_toArray, List.set_cons_zero, List.set_cons_succ]
  refine wpAnyH_take (i := 32) (oi := { dst := some 64, op := Op.binOp BinOp.neq 3 (Operand.tmp 63) (Operand.const (Value.int IntKind.i64 0)) 3, type := 4, pos := "law.go:146", after := #[{ on := 31, ground := Ground.data }, { on := 27, ground := Ground.guard }], guard := some (27, false) }) (v := ?_) rfl (by kernel_rfl) (by kernel_rfl) (by kernel_rfl) (fun _ _ _ h => h) (Or.inl ⟨by rfl, ?_⟩) (by assumption) ?_
  rotate_left
  · (intro w_ hS_; (try dsimp only at hS_); go_simp; try with_reducible rfl)
  try simp only [Act.put, List.setIfInBounds_toArray, List.set_cons_zero, List.set_cons_succ]
  refine wpAnyH_take (i := 33) (oi := { dst := some 65, op := Op.pick (Operand.tmp 59) (Operand.const (Value.bool true)) (Operand.tmp 64), type := 4, pos := "law.go:146", after := #[{ on := 27, ground := Ground.data }, { on := 32, ground := Ground.data }], guard := none }) (v := ?_) rfl (by kernel_rfl) (by kernel_rfl) (by kernel_rfl) (fun _ _ _ h => h) (Or.inl ⟨by rfl, ?_⟩) (by assumption) ?_
  rotate_left
  · (intro w_ hS_; (try dsimp only at hS_); go_simp; try with_reducible rfl)
  try simp only [Act.put, List.setIfInBounds_toArray, List.set_cons_zero, List.set_cons_succ]
  refine wpAnyH_take (i := 34) (oi := { dst := some 66, op := Op.move (Operand.tmp 65), type := 4, pos := "law.go:146", after := #[{ on := 33, ground := Ground.data }, { on := 27, ground := Ground.chain }], guard := none }) (v := ?_) rfl (by kernel_rfl) (by kernel_rfl) (by kernel_rfl) (fun _ _ _ h => h) (Or.inl ⟨by rfl, ?_⟩) (by assumption) ?_
  rotate_left
  · (intro w_ hS_; (try dsimp only at hS_); go_simp; try with_reducible rfl)
  try simp only [Act.put, List.setIfInBounds_toArray, List.set_cons_zero, List.set_cons_succ]
  refine wpAnyH_take (i := 35) (oi := { dst := some 67, op := Op.move (Operand.tmp 6), type := 24, pos := "law.go:146", after := #[{ on := 34, ground := Ground.guard }], guard := some (34, false) }) (v := ?_) rfl (by kernel_rfl) (by kernel_rfl) (by kernel_rfl) (fun _ _ _ h => h) (Or.inl ⟨by rfl, ?_⟩) (by assumption) ?_
  rotate_left
  · (intro w_ hS_; (try dsimp only at hS_); go_simp; try with_reducible rfl)
  try simp only [Act.put, List.setIfInBounds_toArray, List.set_cons_zero, List.set_cons_succ]
  refine wpAnyH_take (i := 36) (oi := { dst := some 68, op := Op.nilCheck (Operand.tmp 67), type := 0, pos := "law.go:146", after := #[{ on := 35, ground := Ground.data }, { on := 34, ground := Ground.guard }], guard := some (34, false) }) (v := ?_) rfl (by kernel_rfl) (by kernel_rfl) (by kernel_rfl) (fun _ _ _ h => h) (Or.inl ⟨by rfl, ?_⟩) (by assumption) ?_
  rotate_left
  · (intro w_ hS_; (try dsimp only at hS_); go_simp; try with_reducible rfl)
  try simp only [Act.put, List.setIfInBounds_toArray, List.set_cons_zero, List.set_cons_succ]
  refine wpAnyH_take (i := 37) (oi := { dst := some 69, op := Op.fieldAddr 37 (Operand.tmp 68) 1, type := 0, pos := "law.go:146", after := #[{ on := 36, ground := Ground.data }, { on := 34, ground := Ground.guard }], guard := some (34, false) }) (v := ?_) rfl (by kernel_rfl) (by kernel_rfl) (by kernel_rfl) (fun _ _ _ h => h) (Or.inl ⟨by rfl, ?_⟩) (by assumption) ?_
  rotate_left
  · (intro w_ hS_; (try dsimp only at hS_); go_simp; try with_reducible rfl)
  try simp only [Act.put, List.setIfInBounds_toArray, List.set_cons_zero, List.set_cons_succ]
  refine wpAnyH_take (i := 38) (oi := { dst := some 70, op := Op.load 22 (Operand.tmp 69), type := 22, pos := "law.go:146", after := #[{ on := 37, ground := Ground.data }, { on := 34, ground := Ground.guard }], guard := some (34, false) }) (v := ?_) rfl (by kernel_rfl) (by kernel_rfl) (by kernel_rfl) (fun _ _ _ h => h) (Or.inl ⟨by rfl, ?_⟩) (by assumption) ?_
  rotate_left
  · (intro w_ hS_; (try dsimp only at hS_); go_simp; try with_reducible rfl)
  try simp only [Act.put, List.setIfInBounds_toArray, List.set_cons_zero, List.set_cons_succ]
  refine wpAnyH_ready (rs := [39]) (by kernel_rfl) (by simp) ?_
  refine AllReadyH.cons (o := { dst := some 71, op := Op.call { callee := Callee.value (Operand.func 14), args := #[Operand.tmp 70], argTypes := #[22] }, type := 3, pos := "law.go:146", after := #[{ on := 38, ground := Ground.data }, { on := 34, ground := Ground.chain }, { on := 34, ground := Ground.guard }], guard := some (34, false) }) rfl (fun K hK => ?_) AllReadyH.nil
  go_simp
  (have hq_ := hHeld; (try dsimp only at hq_); go_split_ands)
  refine (used0 h2 (by assumption) (by assumption)).mono ?_
  rintro e w4 ⟨rfl, hb⟩
  refine hK.out _ _ ?_ (fun hHeld => ?_)
  · (go_split_ands; exact ⟨rk1 (by assumption) hb, rk2 (by assumption) (by assumption) hb, rk1 (by assumption) hb, rk2 (by assumption) (by assumption) hb, bk (by assumption) (Below.size (by assumption)) hb⟩)
  clear hK K
  try simp only [Act.put, List.setIfInBounds_toArray, List.set_cons_zero, List.set_cons_succ]
  refine wpAnyH_take (i := 40) (oi := { dst := some 72, op := Op.binOp BinOp.neq 3 (Operand.tmp 71) (Operand.const (Value.int IntKind.i64 0)) 3, type := 4, pos := "law.go:146", after := #[{ on := 39, ground := Ground.data }, { on := 34, ground := Ground.guard }], guard := some (34, false) }) (v := ?_) rfl (by kernel_rfl) (by kernel_rfl) (by kernel_rfl) (fun _ _ _ h => h) (Or.inl ⟨by rfl, ?_⟩) (by assumption) ?_
  rotate_left
  · (intro w_ hS_; (try dsimp only at hS_); go_simp; try with_reducible rfl)
  try simp only [Act.put, List.setIfInBounds_toArray, List.set_cons_zero, List.set_cons_succ]
  refine wpAnyH_take (i := 41) (oi := { dst := some 73, op := Op.pick (Operand.tmp 66) (Operand.const (Value.bool true)) (Operand.tmp 72), type := 4, pos := "law.go:146", after := #[{ on := 34, ground := Ground.data }, { on := 40, ground := Ground.data }], guard := none }) (v := ?_) rfl (by kernel_rfl) (by kernel_rfl) (by kernel_rfl) (fun _ _ _ h => h) (Or.inl ⟨by rfl, ?_⟩) (by assumption) ?_
  rotate_left
  · (intro w_ hS_; (try dsimp only at hS_); go_simp; try with_reducible rfl)
  try simp only [Act.put, List.setIfInBounds_toArray, List.set_cons_zero, List.set_cons_succ]
  refine wpAnyH_done (by kernel_rfl) ?_ _
  (try dsimp only at hHeld)
  go_split_ands
  go_wp2_with fail
  refine (HR.out _ (by assumption)).mono ?_
  rintro e v2 ⟨rfl, hb2⟩
  obtain ⟨V_2, V_2'⟩ : Row v2 gv #[.int .i64 0, .int .i64 0, .int .i64 0, .bool false, .bool false, .bool false, .int .u32 0, .int .u32 0, .slice (some ⟨lv, 0, none⟩) n n, .int .i64 0] := Row.step (by go_simp) (by go_simp) hb2
  obtain ⟨L_2, L_2'⟩ : Row v2 lv (FA (List.replicate n z54)) := Row.step (by go_simp) (by go_simp) hb2
  have hB_2 : Below w.heap.size w v2 := bk (by go_simp) (by first | (go_simp; done) | (go_simp; omega) | exact Below.size (by assumption)) hb2
  clear hb2
  have hz_2 : w.heap.size ≤ v2.heap.size := hB_2.size
  have hl_V_2 := isRow.lt V_2
  have ne_V_2_0 : ¬ gv = v2.heap.size := by omega
  have en_V_2_0 : ¬ v2.heap.size = gv := by omega
  have hl_L_2 := isRow.lt L_2
  have ne_L_2_0 : ¬ lv = v2.heap.size := by omega
  have en_L_2_0 : ¬ v2.heap.size = lv := by omega
  go_wp2_with fail
  refine (HL.out gv lv n12 gw0 _ (by go_simp) (by go_simp) (by go_simp) (by go_simp) (by go_simp)).mono ?_
  rintro e v3 ⟨rfl, ⟨V_3, V_3'⟩, ⟨L_3, L_3'⟩, hA3⟩
  have hB_3 : Below w.heap.size w v3 := hA3.below (by go_simp) (by first | omega | (go_simp; done) | (go_simp; omega)) (by first | omega | (go_simp; done) | (go_simp; omega)) (by first | (go_simp; done) | (go_simp; omega) | exact Below.size (by assumption))
  clear V_2 V_2' L_2 L_2' hB_2 hA3
  have hz_3 : w.heap.size ≤ v3.heap.size := hB_3.size
  have hl_V_3 := isRow.lt V_3
  have ne_V_3_0 : ¬ gv = v3.heap.size := by omega
  have en_V_3_0 : ¬ v3.heap.size = gv := by omega
  have hl_L_3 := isRow.lt L_3
  have ne_L_3_0 : ¬ lv = v3.heap.size := by omega
  have en_L_3_0 : ¬ v3.heap.size = lv := by omega
  go_wp2_with fail
  refine (ack_off gv lv n LY HX.out h2 0 n12 _ (by go_simp) (by go_simp) (by go_simp) (by go_simp)).mono ?_
  rintro e v4 ⟨rfl, ⟨V_4, V_4'⟩, ⟨L_4, L_4'⟩, hA4⟩
  have hB_4 : Below w.heap.size w v4 := hA4.below (by go_simp) (by first | omega | (go_simp; done) | (go_simp; omega)) (by first | omega | (go_simp; done) | (go_simp; omega)) (by first | (go_simp; done) | (go_simp; omega) | exact Below.size (by assumption))
  clear V_3 V_3' L_3 L_3' hB_3 hA4
  have hz_4 : w.heap.size ≤ v4.heap.size := hB_4.size
  have hl_V_4 := isRow.lt V_4
  have ne_V_4_0 : ¬ gv = v4.heap.size := by omega
  have en_V_4_0 : ¬ v4.heap.size = gv := by omega
  have hl_L_4 := isRow.lt L_4
  have ne_L_4_0 : ¬ lv = v4.heap.size := by omega
  have en_L_4_0 : ¬ v4.heap.size = lv := by omega
  go_wp2_with fail
  refine (ack_off gv lv n LY HX.out h2 1 n12 _ (by go_simp) (by go_simp) (by go_simp) (by go_simp)).mono ?_
  rintro e v5 ⟨rfl, ⟨V_5, V_5'⟩, ⟨L_5, L_5'⟩, hA5⟩
  have hB_5 : Below w.heap.size w v5 := hA5.below (by go_simp) (by first | omega | (go_simp; done) | (go_simp; omega)) (by first | omega | (go_simp; done) | (go_simp; omega)) (by first | (go_simp; done) | (go_simp; omega) | exact Below.size (by assumption))
  clear V_4 V_4' L_4 L_4' hB_4 hA5
  have hz_5 : w.heap.size ≤ v5.heap.size := hB_5.size
  have hl_V_5 := isRow.lt V_5
  have ne_V_5_0 : ¬ gv = v5.heap.size := by omega
  have en_V_5_0 : ¬ v5.heap.size = gv := by omega
  have hl_L_5 := isRow.lt L_5
  have ne_L_5_0 : ¬ lv = v5.heap.size := by omega
  have en_L_5_0 : ¬ v5.heap.size = lv := by omega
  go_wp2
  go_ret
  exact ⟨rfl, by go_simp⟩
set_option maxRecDepth 100000 in
set_option maxHeartbeats 4000000 in
theorem news_law (w : World) (A : Option Addr) (cA : Nat) (ls : List S54) (hC : Kd.C k54 w A ls.length ls) (hcA : ls.length ≤ cA) (l : Int) :
    Calls Try.prog 3 #[.int .i64 l, .slice A ls.length cA] w fun e w' => e = .returned (.bool true) ∧ Below w.heap.size w w' := by
  by_cases h : l < 1 ∨ 16 < l
  · exact news_bad w A cA ls hC hcA l h
  · obtain ⟨n, rfl⟩ : ∃ n : Nat, l = (n : Int) := ⟨l.toNat, by omega⟩
    have h1 : 1 ≤ n := by omega
    have h2 : n ≤ 16 := by omega
    by_cases hlt : n < ls.length
    · obtain ⟨rr, hrr⟩ : ∃ rr, crierref20_Right.f 400 ls = some rr := by
        by_cases h16 : 16 < ls.length
        · exact ⟨_, rright_long ls h16⟩
        · by_cases hg : goodL ls
          · exact ⟨_, rright_good ls (by omega) hg⟩
          · exact ⟨_, rright_bad ls (by omega) hg⟩
      exact news_lt w A cA ls hC hcA n h1 h2 rr hrr hlt
    · by_cases hg : goodL ls
      · exact news_le w A cA ls hC hcA n h1 h2 0 (rright_good ls (by omega) hg) hlt (tgt ls n) (tgt_length ls n (by omega)) ⟨by unfold loadN; rw [if_neg hlt, if_pos hg], by unfold loadXs; rw [if_neg hlt, if_pos hg]⟩
      · exact news_le w A cA ls hC hcA n h1 h2 200 (rright_bad ls (by omega) hg) hlt (List.replicate n z54) List.length_replicate ⟨by unfold loadN; rw [if_neg hlt, if_neg hg], by unfold loadXs; rw [if_neg hlt, if_neg hg]⟩
end Go.Proofs.Ytkbaghblchlcnaa.Lr
