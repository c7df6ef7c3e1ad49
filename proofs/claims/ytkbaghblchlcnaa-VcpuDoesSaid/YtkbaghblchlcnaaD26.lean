/- Texts of this claim, put together: Vx, Vy, Vz, Wa, Wb, Wc, Wd, Wf, Ua, Ui, Uf, Um. -/
import Derived.Test.YtkbaghblchlcnaaD25
import Derived.RegionIn
namespace Go.Proofs.Ytkbaghblchlcnaa.Lr
open Go.RowKit Go.Shelf Go.Proofs.YtkbaghblchlcnaaW.PrintWords Go.Proofs.Ytkbaghblchlcnaa.IAll
def sblk : Value → Nat | .slice (some p) _ _ => p.block | _ => 0
theorem sblk_r {b i j : Nat} : sblk (.slice (some ⟨b, 0, none⟩) i j) = b := rfl
section
variable {w : World} {ρ : Operand → Value} {x0 x1 x y : Operand} {dst : Option Tmp} {t0 : TypeId} {pos : String} {af : Array Edge} {gd : Option (Nat × Bool)}
set_option maxRecDepth 100000 in
theorem foldV {m p0 p1 : Int} {o0 o1 sp : Bool} {f : Nat → Bool} : Array.foldl (fun (cs : Array Value) (x : Value × Nat) => cs.setIfInBounds x.snd x.fst) Try.zeroCells110 (RC m p0 p1 o0 o1 sp f).zipIdx 0 70 = RV (RC m p0 p1 o0 o1 sp f) (.slice none 0 0) (.int .i64 0) := by kernel_rfl
set_option maxRecDepth 100000 in
theorem buildV (bb : Nat) (m p0 p1 : Int) (o0 o1 sp : Bool) (f : Nat → Bool) (n : Nat) (h0 : ρ x0 = .agg (RC m p0 p1 o0 o1 sp f)) (h1 : ρ x1 = .slice (some ⟨bb, 0, none⟩) n n) :
    (execOp ρ { dst := dst, op := .build 110 #[(0, x0), (1, x1)], type := t0, pos := pos, after := af, guard := gd }).run Try.prog w = .ok (.value (.agg (RV (RC m p0 p1 o0 o1 sp f) (.slice (some ⟨bb, 0, none⟩) n n) (.int .i64 0)))) w := by
  go_simp
  simp only [RC_size]
  rw [if_neg (by decide), foldV]
  simp only [RV_set70 RC_size, RV_size RC_size]
  rw [if_neg (by decide)]
  rfl
end
attribute [local go_sem] Oper.semAt_some cell_row frozen_row isRow_setCell_eq rowAt_setCell_same rowAt_setCell_other isRow_alloc_eq rowAt_alloc rowAt_new rowAt_new' isRow_setRow_eq rowAt_setRow_same rowAt_setRow_other isRow_drew rowAt_drew size_setRow_ Lb_size Lb_at blk_ptr aggOf_agg below_alloc_e below_setCell_e below_setRow_e below_refl_e below_drew_r aside2_alloc_e aside2_setCell_e aside2_setRow_e aside2_drew_e aside2_refl_e aside2_drewN_e isRow_drewN rowAt_drewN below_drewN_e le_add_r offv_ptr one_lad zero_lad allOne_nil allOne_cons Value.oneCell' addr_at FA_size one_FA sblk_r
attribute [local go_sem ↓] storeI storeC storeE storeLm
attribute [local go_sem] eq2i eq2b eq2u
set_option maxRecDepth 100000 in
set_option maxHeartbeats 4000000 in
theorem made_c (n : Nat) (h1 : 1 ≤ n) (h2 : n ≤ 16) (c : Int) (hc : 1 + c % 16 = (n : Int)) (c0 : 0 ≤ c) (m p0 p1 : Int) (o0 o1 sp : Bool) (a b : Int) (ha : 0 ≤ a) (ha' : a ≤ 4294967295) (hb : 0 ≤ b) (hb' : b ≤ 4294967295) (w : World) :
    Calls Try.prog 31 #[.int .u8 c, .agg #[.int .i64 m, .int .i64 p0, .int .i64 p1, .bool o0, .bool o1, .bool sp, .int .u32 a, .int .u32 b]] w fun e w' => ∃ gv lv gr lr, e = .returned (.tuple #[.pointer (some ⟨gv, 0, none⟩), .pointer (some ⟨gr, 0, none⟩)]) ∧ Row w' gv (vrow n lv ⟨m, p0, p1, o0, o1, sp, a, b, List.replicate n z54, 0⟩) ∧ Row w' lv (FA (List.replicate n z54)) ∧ Row w' gr (rrow n lr ⟨m, p0, p1, o0, o1, sp, a, b, List.replicate n z54, 0⟩) ∧ Row w' lr (FA (List.replicate n z54)) ∧ ¬ gv = lv ∧ ¬ gv = gr ∧ ¬ gv = lr ∧ ¬ lv = gr ∧ ¬ lv = lr ∧ ¬ gr = lr ∧ w.heap.size ≤ gv ∧ w.heap.size ≤ lv ∧ w.heap.size ≤ gr ∧ w.heap.size ≤ lr ∧ Below w.heap.size w w' := by
  have hm := fun w => mkL n h1 h2 w
  have ht : c.tmod 16 = (n : Int) - 1 := by rw [Int.tmod_eq_emod_of_nonneg c0]; omega
  have hw1 : IntKind.u8.wrap ((n : Int) - 1) = (n : Int) - 1 := by
    have : ∀ x, IntKind.u8.wrap x = x % 256 := fun x => by simp [IntKind.wrap, IntKind.bits, IntKind.signed]
    rw [this]; omega
  have hw2 : IntKind.i64.wrap ((n : Int) - 1) = (n : Int) - 1 := by rw [wrap_i64_eq]; omega
  have hw3 : IntKind.i64.wrap (1 + ((n : Int) - 1)) = (n : Int) := by rw [wrap_i64_eq]; omega
  have hB_0 : Below w.heap.size w w := Below.refl _ _
  go_enter Try.func31, Try.ntmps31
  go_wp2_with fail
  refine (VNew_c n h1 h2 _).mono ?_
  rintro e v0 ⟨rfl, V1, L1, hb0⟩
  simp only [World.size_alloc] at V1 L1
  obtain ⟨F_0, F_0'⟩ : Row v0 w.heap.size #[.int .i64 m, .int .i64 p0, .int .i64 p1, .bool o0, .bool o1, .bool sp, .int .u32 a, .int .u32 b] := Row.step (by go_simp) (by go_simp) hb0
  have hB_9 : Below w.heap.size w v0 := bk (by go_simp) (by first | (go_simp; done) | (go_simp; omega)) hb0
  obtain ⟨V_0, V_0'⟩ : Row v0 (w.heap.size + 1 + 1) #[.int .i64 0, .int .i64 0, .int .i64 0, .bool false, .bool false, .bool false, .int .u32 0, .int .u32 0, .slice (some ⟨w.heap.size + 1, 0, none⟩) n n, .int .i64 0] := V1
  obtain ⟨L_0, L_0'⟩ : Row v0 (w.heap.size + 1) (FA (List.replicate n z54)) := L1
  clear hb0 hB_0
  have hB_0 := hB_9
  clear hB_9
  have n1 : ¬ w.heap.size = w.heap.size + 1 + 1 := by omega
  have n2 : ¬ w.heap.size + 1 + 1 = w.heap.size := by omega
  have n3 : ¬ w.heap.size + 1 = w.heap.size + 1 + 1 := by omega
  have n4 : ¬ w.heap.size + 1 + 1 = w.heap.size + 1 := by omega
  go_wp2_with fail
  refine wp_named (fun W_ => (isRow W_ w.heap.size ∧ rowAt W_ w.heap.size = #[.int .i64 m, .int .i64 p0, .int .i64 p1, .bool o0, .bool o1, .bool sp, .int .u32 a, .int .u32 b]) ∧ (isRow W_ (w.heap.size + 1 + 1) ∧ rowAt W_ (w.heap.size + 1 + 1) = #[.int .i64 m, .int .i64 p0, .int .i64 p1, .bool o0, .bool o1, .bool sp, .int .u32 a, .int .u32 b, .slice (some ⟨w.heap.size + 1, 0, none⟩) n n, .int .i64 0]) ∧ (isRow W_ (w.heap.size + 1) ∧ rowAt W_ (w.heap.size + 1) = (FA (List.replicate n z54))) ∧ Below w.heap.size w W_) (by refine ⟨⟨by go_simp, by go_simp⟩, ⟨by go_simp, by go_simp⟩, ⟨by go_simp, by go_simp⟩, by go_simp⟩) ?_
  rintro v1 ⟨⟨F_1, F_1'⟩, ⟨V_1, V_1'⟩, ⟨L_1, L_1'⟩, hB_1⟩
  clear F_0 F_0' V_0 V_0' L_0 L_0' hB_0
  have hz_1 : w.heap.size ≤ v1.heap.size := hB_1.size
  have hl_F_1 := isRow.lt F_1
  have ne_F_1_0 : ¬ w.heap.size = v1.heap.size := by omega
  have en_F_1_0 : ¬ v1.heap.size = w.heap.size := by omega
  have ne_F_1_1 : ¬ w.heap.size = v1.heap.size + 1 := by omega
  have en_F_1_1 : ¬ v1.heap.size + 1 = w.heap.size := by omega
  have ne_F_1_2 : ¬ w.heap.size = v1.heap.size + 2 := by omega
  have en_F_1_2 : ¬ v1.heap.size + 2 = w.heap.size := by omega
  have ne_F_1_3 : ¬ w.heap.size = v1.heap.size + 3 := by omega
  have en_F_1_3 : ¬ v1.heap.size + 3 = w.heap.size := by omega
  have hl_V_1 := isRow.lt V_1
  have ne_V_1_0 : ¬ w.heap.size + 1 + 1 = v1.heap.size := by omega
  have en_V_1_0 : ¬ v1.heap.size = w.heap.size + 1 + 1 := by omega
  have ne_V_1_1 : ¬ w.heap.size + 1 + 1 = v1.heap.size + 1 := by omega
  have en_V_1_1 : ¬ v1.heap.size + 1 = w.heap.size + 1 + 1 := by omega
  have ne_V_1_2 : ¬ w.heap.size + 1 + 1 = v1.heap.size + 2 := by omega
  have en_V_1_2 : ¬ v1.heap.size + 2 = w.heap.size + 1 + 1 := by omega
  have ne_V_1_3 : ¬ w.heap.size + 1 + 1 = v1.heap.size + 3 := by omega
  have en_V_1_3 : ¬ v1.heap.size + 3 = w.heap.size + 1 + 1 := by omega
  have hl_L_1 := isRow.lt L_1
  have ne_L_1_0 : ¬ w.heap.size + 1 = v1.heap.size := by omega
  have en_L_1_0 : ¬ v1.heap.size = w.heap.size + 1 := by omega
  have ne_L_1_1 : ¬ w.heap.size + 1 = v1.heap.size + 1 := by omega
  have en_L_1_1 : ¬ v1.heap.size + 1 = w.heap.size + 1 := by omega
  have ne_L_1_2 : ¬ w.heap.size + 1 = v1.heap.size + 2 := by omega
  have en_L_1_2 : ¬ v1.heap.size + 2 = w.heap.size + 1 := by omega
  have ne_L_1_3 : ¬ w.heap.size + 1 = v1.heap.size + 3 := by omega
  have en_L_1_3 : ¬ v1.heap.size + 3 = w.heap.size + 1 := by omega
  refine wp_region_held_drew (S := fun w' => isRow w' w.heap.size ∧ rowAt w' w.heap.size = #[.int .i64 m, .int .i64 p0, .int .i64 p1, .bool o0, .bool o1, .bool sp, .int .u32 a, .int .u32 b] ∧ isRow w' (w.heap.size + 1 + 1) ∧ rowAt w' (w.heap.size + 1 + 1) = #[.int .i64 m, .int .i64 p0, .int .i64 p1, .bool o0, .bool o1, .bool sp, .int .u32 a, .int .u32 b, .slice (some ⟨w.heap.size + 1, 0, none⟩) n n, .int .i64 0] ∧ isRow w' (w.heap.size + 1) ∧ rowAt w' (w.heap.size + 1) = (FA (List.replicate n z54)) ∧ Below w.heap.size w w') (by kernel_rfl) ⟨by go_simp, by go_simp, by go_simp, by go_simp, by go_simp, by go_simp, by go_simp⟩ (fun hHeld => ?_)
  refine wpAnyH_take (i := 0) (oi := { dst := some 24, op := Op.move (Operand.tmp 7), type := 24, pos := "law.go:82", after := #[], guard := none }) (v := ?_) rfl (by kernel_rfl) (by kernel_rfl) (by kernel_rfl) (fun _ _ _ h => h) (Or.inl ⟨by rfl, ?_⟩) (by assumption) ?_
  rotate_left
  · (intro w_ hS_; (try dsimp only at hS_); (try go_split_ands); go_simp; try with_reducible rfl)
  try simp only [Act.put, List.setIfInBounds_toArray, List.set_cons_zero, List.set_cons_succ]
  refine wpAnyH_take (i := 1) (oi := { dst := some 25, op := Op.load 35 (Operand.tmp 3), type := 35, pos := "law.go:82", after := #[], guard := none }) (v := ?_) rfl (by kernel_rfl) (by kernel_rfl) (by kernel_rfl) (fun _ _ _ h => h) (Or.inl ⟨by rfl, ?_⟩) (by assumption) ?_
  rotate_left
  · (intro w_ hS_; (try dsimp only at hS_); (try go_split_ands); go_simp; try with_reducible rfl)
  try simp only [Act.put, List.setIfInBounds_toArray, List.set_cons_zero, List.set_cons_succ]
  refine wpAnyH_take (i := 3) (oi := { dst := some 27, op := Op.move (Operand.tmp 6), type := 3, pos := "law.go:82", after := #[], guard := none }) (v := ?_) rfl (by kernel_rfl) (by kernel_rfl) (by kernel_rfl) (fun _ _ _ h => h) (Or.inl ⟨by rfl, ?_⟩) (by assumption) ?_
  rotate_left
  · (intro w_ hS_; (try dsimp only at hS_); (try go_split_ands); go_simp; try with_reducible rfl)
  try simp only [Act.put, List.setIfInBounds_toArray, List.set_cons_zero, List.set_cons_succ]
  refine wpAnyH_ready (rs := [2, 4]) (by kernel_rfl) (by simp) ?_
  refine AllReadyH.cons (o := { dst := some 26, op := Op.call { callee := Callee.value (Operand.func 56), args := #[Operand.tmp 25], argTypes := #[35] }, type := 107, pos := "law.go:82", after := #[{ on := 1, ground := Ground.data }], guard := none }) rfl (fun K hK => ?_) (AllReadyH.cons (o := { dst := some 28, op := Op.makeSlice 22 (Operand.tmp 27) (Operand.tmp 27), type := 22, pos := "law.go:82", after := #[{ on := 3, ground := Ground.data }, { on := 3, ground := Ground.data }], guard := none }) rfl (fun K hK => ?_) AllReadyH.nil)
  · skip
    (have hq_ := hHeld; (try dsimp only at hq_))
    obtain ⟨PF_1q, PF_1q', PV_1q, PV_1q', PL_1q, PL_1q', hF_1q⟩ := hq_
    go_simp
    refine (Told_c m p0 p1 o0 o1 sp a b ha ha' hb hb' _).mono ?_
    rintro e u1 ⟨rfl, hb⟩
    refine hK.out _ _ ?_ (fun hHeld => ?_)
    · exact ⟨rk1 PF_1q hb, rk2 PF_1q PF_1q' hb, rk1 PV_1q hb, rk2 PV_1q PV_1q' hb, rk1 PL_1q hb, rk2 PL_1q PL_1q' hb, bk hF_1q hF_1q.size hb⟩
    clear hK K
    try simp only [Act.put, List.setIfInBounds_toArray, List.set_cons_zero, List.set_cons_succ]
    refine wpAnyH_take (i := 7) (oi := { dst := some 4, op := Op.assign (Operand.tmp 24), type := 24, pos := "law.go:82", after := #[{ on := 0, ground := Ground.data }, { on := 2, ground := Ground.chain }, { on := 0, ground := Ground.phase }, { on := 1, ground := Ground.textOnly Departure.lateStores }, { on := 2, ground := Ground.textOnly Departure.lateStoresUnsure }, { on := 3, ground := Ground.textOnly Departure.lateStores }, { on := 4, ground := Ground.textOnly Departure.lateStoresUnsure }, { on := 5, ground := Ground.textOnly Departure.lateStores }, { on := 6, ground := Ground.textOnly Departure.lateStores }], guard := none }) (v := ?_) rfl (by kernel_rfl) (by kernel_rfl) (by kernel_rfl) (fun _ _ _ h => h) (Or.inl ⟨by rfl, ?_⟩) (by assumption) ?_
    rotate_left
    · (intro w_ hS_; (try dsimp only at hS_); (try go_split_ands); go_simp; try with_reducible rfl)
    try simp only [Act.put, List.setIfInBounds_toArray, List.set_cons_zero, List.set_cons_succ]
    refine wpAnyH_ready (rs := [4]) (by kernel_rfl) (by simp) ?_
    refine AllReadyH.cons (o := { dst := some 28, op := Op.makeSlice 22 (Operand.tmp 27) (Operand.tmp 27), type := 22, pos := "law.go:82", after := #[{ on := 3, ground := Ground.data }, { on := 3, ground := Ground.data }], guard := none }) rfl (fun K hK => ?_) AllReadyH.nil
    · skip
      (have hq_ := hHeld; (try dsimp only at hq_))
      obtain ⟨PF_2q, PF_2q', PV_2q, PV_2q', PL_2q, PL_2q', hF_2q⟩ := hq_
      go_simp
      have nb_F_2 : ¬ w.heap.size = u1.heap.size := by have := isRow.lt PF_2q; (try simp only [size_drew_] at this); (try simp only [World.size_alloc] at this); omega
      have bn_F_2 : ¬ u1.heap.size = w.heap.size := by omega
      have nb_V_2 : ¬ w.heap.size + 1 + 1 = u1.heap.size := by have := isRow.lt PV_2q; (try simp only [size_drew_] at this); (try simp only [World.size_alloc] at this); omega
      have bn_V_2 : ¬ u1.heap.size = w.heap.size + 1 + 1 := by omega
      have nb_L_2 : ¬ w.heap.size + 1 = u1.heap.size := by have := isRow.lt PL_2q; (try simp only [size_drew_] at this); (try simp only [World.size_alloc] at this); omega
      have bn_L_2 : ¬ u1.heap.size = w.heap.size + 1 := by omega
      have hz_2 : w.heap.size ≤ u1.heap.size := by have := hF_2q.size; (try simp only [size_drew_] at this); (try simp only [World.size_alloc] at this); omega
      obtain ⟨NM_2, NM_2'⟩ : Row (u1.alloc (.cells (FA (List.replicate n z54)) 54)) u1.heap.size (FA (List.replicate n z54)) := by first | exact Row.new _ _ _ | exact ⟨by go_simp, by go_simp⟩
      refine hK.out _ _ ?_ (fun hHeld => ?_)
      · exact ⟨isRow_alloc PF_2q, (rowAt_alloc PF_2q).trans PF_2q', isRow_alloc PV_2q, (rowAt_alloc PV_2q).trans PV_2q', isRow_alloc PL_2q, (rowAt_alloc PL_2q).trans PL_2q', hF_2q.alloc hF_2q.size _⟩
      clear hK K
      try simp only [Act.put, List.setIfInBounds_toArray, List.set_cons_zero, List.set_cons_succ]
      refine wpAnyH_take (i := 5) (oi := { dst := some 29, op := Op.build 110 #[(0, Operand.tmp 26), (1, Operand.tmp 28)], type := 110, pos := "law.go:82", after := #[{ on := 2, ground := Ground.data }, { on := 4, ground := Ground.data }, { on := 7, ground := Ground.gcOnly Departure.lateStores }], guard := none }) (v := ?_) rfl (by kernel_rfl) (by kernel_rfl) (by kernel_rfl) (fun _ _ _ h => h) (Or.inl ⟨by rfl, ?_⟩) (by assumption) ?_
      rotate_left
      · (intro w_ hS_; refine buildV u1.heap.size m p0 p1 o0 o1 sp (rb a b) n ?_ ?_ <;> go_simp)
      try simp only [Act.put, List.setIfInBounds_toArray, List.set_cons_zero, List.set_cons_succ]
      refine wpAnyH_ready (rs := [6]) (by kernel_rfl) (by simp) ?_
      refine AllReadyH.cons (o := { dst := some 30, op := Op.box 110 (Operand.tmp 29), type := 75, pos := "law.go:82", after := #[{ on := 5, ground := Ground.data }, { on := 7, ground := Ground.gcOnly Departure.lateStores }], guard := none }) rfl (fun K hK => ?_) AllReadyH.nil
      · skip
        (have hq_ := hHeld; (try dsimp only at hq_))
        obtain ⟨PF_3q, PF_3q', PV_3q, PV_3q', PL_3q, PL_3q', hF_3q⟩ := hq_
        go_simp
        have nb_F_3 : ¬ w.heap.size = (u1.heap.size + 1) := by have := isRow.lt PF_3q; (try simp only [size_drew_] at this); (try simp only [World.size_alloc] at this); omega
        have bn_F_3 : ¬ (u1.heap.size + 1) = w.heap.size := by omega
        have nb_V_3 : ¬ w.heap.size + 1 + 1 = (u1.heap.size + 1) := by have := isRow.lt PV_3q; (try simp only [size_drew_] at this); (try simp only [World.size_alloc] at this); omega
        have bn_V_3 : ¬ (u1.heap.size + 1) = w.heap.size + 1 + 1 := by omega
        have nb_L_3 : ¬ w.heap.size + 1 = (u1.heap.size + 1) := by have := isRow.lt PL_3q; (try simp only [size_drew_] at this); (try simp only [World.size_alloc] at this); omega
        have bn_L_3 : ¬ (u1.heap.size + 1) = w.heap.size + 1 := by omega
        have nB_M_3 : ¬ u1.heap.size = (u1.heap.size + 1) := by have := isRow.lt NM_2; (try simp only [size_drew_] at this); (try simp only [World.size_alloc] at this); omega
        have Bn_M_3 : ¬ (u1.heap.size + 1) = u1.heap.size := by omega
        obtain ⟨NM_3, NM_3'⟩ : Row ((u1.alloc (.cells (FA (List.replicate n z54)) 54)).alloc (.cells (RV (RC m p0 p1 o0 o1 sp (rb a b)) (.slice (some ⟨u1.heap.size, 0, none⟩) n n) (.int .i64 0)) 110)) u1.heap.size _ := ⟨isRow_alloc NM_2, (rowAt_alloc NM_2).trans NM_2'⟩
        have hz_3 : w.heap.size ≤ (u1.heap.size + 1) := by have := hF_3q.size; (try simp only [size_drew_] at this); (try simp only [World.size_alloc] at this); omega
        obtain ⟨NX_3, NX_3'⟩ : Row ((u1.alloc (.cells (FA (List.replicate n z54)) 54)).alloc (.cells (RV (RC m p0 p1 o0 o1 sp (rb a b)) (.slice (some ⟨u1.heap.size, 0, none⟩) n n) (.int .i64 0)) 110)) (u1.heap.size + 1) (RV (RC m p0 p1 o0 o1 sp (rb a b)) (.slice (some ⟨u1.heap.size, 0, none⟩) n n) (.int .i64 0)) := by first | exact Row.new _ _ _ | exact ⟨by go_simp, by go_simp⟩
        refine hK.out _ _ ?_ (fun hHeld => ?_)
        · exact ⟨isRow_alloc PF_3q, (rowAt_alloc PF_3q).trans PF_3q', isRow_alloc PV_3q, (rowAt_alloc PV_3q).trans PV_3q', isRow_alloc PL_3q, (rowAt_alloc PL_3q).trans PL_3q', hF_3q.alloc hF_3q.size _⟩
        clear hK K
        try simp only [Act.put, List.setIfInBounds_toArray, List.set_cons_zero, List.set_cons_succ]
        refine wpAnyH_take (i := 8) (oi := { dst := some 5, op := Op.assign (Operand.tmp 30), type := 75, pos := "law.go:82", after := #[{ on := 6, ground := Ground.data }, { on := 7, ground := Ground.chain }, { on := 0, ground := Ground.phase }, { on := 1, ground := Ground.phase }, { on := 2, ground := Ground.phase }, { on := 3, ground := Ground.phase }, { on := 4, ground := Ground.phase }, { on := 5, ground := Ground.phase }, { on := 6, ground := Ground.phase }, { on := 7, ground := Ground.phase }], guard := none }) (v := ?_) rfl (by kernel_rfl) (by kernel_rfl) (by kernel_rfl) (fun _ _ _ h => h) (Or.inl ⟨by rfl, ?_⟩) (by assumption) ?_
        rotate_left
        · (intro w_ hS_; (try dsimp only at hS_); (try go_split_ands); go_simp; try with_reducible rfl)
        try simp only [Act.put, List.setIfInBounds_toArray, List.set_cons_zero, List.set_cons_succ]
        refine wpAnyH_done (by kernel_rfl) ?_ _
        (have hq_ := hHeld; (try dsimp only at hq_))
        obtain ⟨PF_4e, PF_4e', PV_4e, PV_4e', PL_4e, PL_4e', hF_4e⟩ := hq_
        have hF := hF_4e
        go_wp2
        go_ret2
        have q1 := isRow.lt NM_3
        have q2 := isRow.lt NX_3
        clear hHeld
        refine ⟨w.heap.size + 1 + 1, w.heap.size + 1, (u1.heap.size + 1), u1.heap.size, by go_simp, ⟨PV_4e, PV_4e'⟩, ⟨PL_4e, PL_4e'⟩, ⟨NX_3, NX_3'⟩, ⟨NM_3, NM_3'⟩, by omega, by omega, by omega, by omega, by omega, by omega, by omega, by omega, by omega, by omega, hF⟩
  · skip
    (have hq_ := hHeld; (try dsimp only at hq_))
    obtain ⟨PF_5q, PF_5q', PV_5q, PV_5q', PL_5q, PL_5q', hF_5q⟩ := hq_
    go_simp
    have nb_F_5 : ¬ w.heap.size = v1.heap.size := by have := isRow.lt PF_5q; (try simp only [size_drew_] at this); (try simp only [World.size_alloc] at this); omega
    have bn_F_5 : ¬ v1.heap.size = w.heap.size := by omega
    have nb_V_5 : ¬ w.heap.size + 1 + 1 = v1.heap.size := by have := isRow.lt PV_5q; (try simp only [size_drew_] at this); (try simp only [World.size_alloc] at this); omega
    have bn_V_5 : ¬ v1.heap.size = w.heap.size + 1 + 1 := by omega
    have nb_L_5 : ¬ w.heap.size + 1 = v1.heap.size := by have := isRow.lt PL_5q; (try simp only [size_drew_] at this); (try simp only [World.size_alloc] at this); omega
    have bn_L_5 : ¬ v1.heap.size = w.heap.size + 1 := by omega
    have hz_5 : w.heap.size ≤ v1.heap.size := by have := hF_5q.size; (try simp only [size_drew_] at this); (try simp only [World.size_alloc] at this); omega
    obtain ⟨NM_5, NM_5'⟩ : Row (v1.drew.alloc (.cells (FA (List.replicate n z54)) 54)) v1.heap.size (FA (List.replicate n z54)) := by first | exact Row.new _ _ _ | exact ⟨by go_simp, by go_simp⟩
    refine hK.out _ _ ?_ (fun hHeld => ?_)
    · exact ⟨isRow_alloc PF_5q, (rowAt_alloc PF_5q).trans PF_5q', isRow_alloc PV_5q, (rowAt_alloc PV_5q).trans PV_5q', isRow_alloc PL_5q, (rowAt_alloc PL_5q).trans PL_5q', hF_5q.alloc hF_5q.size _⟩
    clear hK K
    try simp only [Act.put, List.setIfInBounds_toArray, List.set_cons_zero, List.set_cons_succ]
    refine wpAnyH_ready (rs := [2]) (by kernel_rfl) (by simp) ?_
    refine AllReadyH.cons (o := { dst := some 26, op := Op.call { callee := Callee.value (Operand.func 56), args := #[Operand.tmp 25], argTypes := #[35] }, type := 107, pos := "law.go:82", after := #[{ on := 1, ground := Ground.data }], guard := none }) rfl (fun K hK => ?_) AllReadyH.nil
    · skip
      (have hq_ := hHeld; (try dsimp only at hq_))
      obtain ⟨PF_6q, PF_6q', PV_6q, PV_6q', PL_6q, PL_6q', hF_6q⟩ := hq_
      go_simp
      refine (Told_c m p0 p1 o0 o1 sp a b ha ha' hb hb' _).mono ?_
      rintro e u6 ⟨rfl, hb⟩
      obtain ⟨NM_6, NM_6'⟩ := Row.step NM_5 NM_5' hb
      refine hK.out _ _ ?_ (fun hHeld => ?_)
      · exact ⟨rk1 PF_6q hb, rk2 PF_6q PF_6q' hb, rk1 PV_6q hb, rk2 PV_6q PV_6q' hb, rk1 PL_6q hb, rk2 PL_6q PL_6q' hb, bk hF_6q hF_6q.size hb⟩
      clear hK K
      try simp only [Act.put, List.setIfInBounds_toArray, List.set_cons_zero, List.set_cons_succ]
      refine wpAnyH_take (i := 5) (oi := { dst := some 29, op := Op.build 110 #[(0, Operand.tmp 26), (1, Operand.tmp 28)], type := 110, pos := "law.go:82", after := #[{ on := 2, ground := Ground.data }, { on := 4, ground := Ground.data }, { on := 7, ground := Ground.gcOnly Departure.lateStores }], guard := none }) (v := ?_) rfl (by kernel_rfl) (by kernel_rfl) (by kernel_rfl) (fun _ _ _ h => h) (Or.inl ⟨by rfl, ?_⟩) (by assumption) ?_
      rotate_left
      · (intro w_ hS_; refine buildV v1.heap.size m p0 p1 o0 o1 sp (rb a b) n ?_ ?_ <;> go_simp)
      try simp only [Act.put, List.setIfInBounds_toArray, List.set_cons_zero, List.set_cons_succ]
      refine wpAnyH_take (i := 7) (oi := { dst := some 4, op := Op.assign (Operand.tmp 24), type := 24, pos := "law.go:82", after := #[{ on := 0, ground := Ground.data }, { on := 2, ground := Ground.chain }, { on := 0, ground := Ground.phase }, { on := 1, ground := Ground.textOnly Departure.lateStores }, { on := 2, ground := Ground.textOnly Departure.lateStoresUnsure }, { on := 3, ground := Ground.textOnly Departure.lateStores }, { on := 4, ground := Ground.textOnly Departure.lateStoresUnsure }, { on := 5, ground := Ground.textOnly Departure.lateStores }, { on := 6, ground := Ground.textOnly Departure.lateStores }], guard := none }) (v := ?_) rfl (by kernel_rfl) (by kernel_rfl) (by kernel_rfl) (fun _ _ _ h => h) (Or.inl ⟨by rfl, ?_⟩) (by assumption) ?_
      rotate_left
      · (intro w_ hS_; (try dsimp only at hS_); (try go_split_ands); go_simp; try with_reducible rfl)
      try simp only [Act.put, List.setIfInBounds_toArray, List.set_cons_zero, List.set_cons_succ]
      refine wpAnyH_ready (rs := [6]) (by kernel_rfl) (by simp) ?_
      refine AllReadyH.cons (o := { dst := some 30, op := Op.box 110 (Operand.tmp 29), type := 75, pos := "law.go:82", after := #[{ on := 5, ground := Ground.data }, { on := 7, ground := Ground.gcOnly Departure.lateStores }], guard := none }) rfl (fun K hK => ?_) AllReadyH.nil
      · skip
        (have hq_ := hHeld; (try dsimp only at hq_))
        obtain ⟨PF_7q, PF_7q', PV_7q, PV_7q', PL_7q, PL_7q', hF_7q⟩ := hq_
        go_simp
        have nb_F_7 : ¬ w.heap.size = u6.heap.size := by have := isRow.lt PF_7q; (try simp only [size_drew_] at this); (try simp only [World.size_alloc] at this); omega
        have bn_F_7 : ¬ u6.heap.size = w.heap.size := by omega
        have nb_V_7 : ¬ w.heap.size + 1 + 1 = u6.heap.size := by have := isRow.lt PV_7q; (try simp only [size_drew_] at this); (try simp only [World.size_alloc] at this); omega
        have bn_V_7 : ¬ u6.heap.size = w.heap.size + 1 + 1 := by omega
        have nb_L_7 : ¬ w.heap.size + 1 = u6.heap.size := by have := isRow.lt PL_7q; (try simp only [size_drew_] at this); (try simp only [World.size_alloc] at this); omega
        have bn_L_7 : ¬ u6.heap.size = w.heap.size + 1 := by omega
        have nB_M_7 : ¬ v1.heap.size = u6.heap.size := by have := isRow.lt NM_6; (try simp only [size_drew_] at this); (try simp only [World.size_alloc] at this); omega
        have Bn_M_7 : ¬ u6.heap.size = v1.heap.size := by omega
        obtain ⟨NM_7, NM_7'⟩ : Row (u6.alloc (.cells (RV (RC m p0 p1 o0 o1 sp (rb a b)) (.slice (some ⟨v1.heap.size, 0, none⟩) n n) (.int .i64 0)) 110)) v1.heap.size _ := ⟨isRow_alloc NM_6, (rowAt_alloc NM_6).trans NM_6'⟩
        have hz_7 : w.heap.size ≤ u6.heap.size := by have := hF_7q.size; (try simp only [size_drew_] at this); (try simp only [World.size_alloc] at this); omega
        obtain ⟨NX_7, NX_7'⟩ : Row (u6.alloc (.cells (RV (RC m p0 p1 o0 o1 sp (rb a b)) (.slice (some ⟨v1.heap.size, 0, none⟩) n n) (.int .i64 0)) 110)) u6.heap.size (RV (RC m p0 p1 o0 o1 sp (rb a b)) (.slice (some ⟨v1.heap.size, 0, none⟩) n n) (.int .i64 0)) := by first | exact Row.new _ _ _ | exact ⟨by go_simp, by go_simp⟩
        refine hK.out _ _ ?_ (fun hHeld => ?_)
        · exact ⟨isRow_alloc PF_7q, (rowAt_alloc PF_7q).trans PF_7q', isRow_alloc PV_7q, (rowAt_alloc PV_7q).trans PV_7q', isRow_alloc PL_7q, (rowAt_alloc PL_7q).trans PL_7q', hF_7q.alloc hF_7q.size _⟩
        clear hK K
        try simp only [Act.put, List.setIfInBounds_toArray, List.set_cons_zero, List.set_cons_succ]
        refine wpAnyH_take (i := 8) (oi := { dst := some 5, op := Op.assign (Operand.tmp 30), type := 75, pos := "law.go:82", after := #[{ on := 6, ground := Ground.data }, { on := 7, ground := Ground.chain }, { on := 0, ground := Ground.phase }, { on := 1, ground := Ground.phase }, { on := 2, ground := Ground.phase }, { on := 3, ground := Ground.phase }, { on := 4, ground := Ground.phase }, { on := 5, ground := Ground.phase }, { on := 6, ground := Ground.phase }, { on := 7, ground := Ground.phase }], guard := none }) (v := ?_) rfl (by kernel_rfl) (by kernel_rfl) (by kernel_rfl) (fun _ _ _ h => h) (Or.inl ⟨by rfl, ?_⟩) (by assumption) ?_
        rotate_left
        · (intro w_ hS_; (try dsimp only at hS_); (try go_split_ands); go_simp; try with_reducible rfl)
        try simp only [Act.put, List.setIfInBounds_toArray, List.set_cons_zero, List.set_cons_succ]
        refine wpAnyH_done (by kernel_rfl) ?_ _
        (have hq_ := hHeld; (try dsimp only at hq_))
        obtain ⟨PF_8e, PF_8e', PV_8e, PV_8e', PL_8e, PL_8e', hF_8e⟩ := hq_
        have hF := hF_8e
        go_wp2
        go_ret2
        have q1 := isRow.lt NM_7
        have q2 := isRow.lt NX_7
        clear hHeld
        refine ⟨w.heap.size + 1 + 1, w.heap.size + 1, u6.heap.size, v1.heap.size, by go_simp, ⟨PV_8e, PV_8e'⟩, ⟨PL_8e, PL_8e'⟩, ⟨NX_7, NX_7'⟩, ⟨NM_7, NM_7'⟩, by omega, by omega, by omega, by omega, by omega, by omega, by omega, by omega, by omega, by omega, hF⟩
end Go.Proofs.Ytkbaghblchlcnaa.Lr
namespace Go.Proofs.Ytkbaghblchlcnaa.Lr
open Go.RowKit Go.Shelf Go.Proofs.YtkbaghblchlcnaaW.PrintWords Go.Proofs.Ytkbaghblchlcnaa.IAll
structure VA where
  f0 : Int
  f1 : List S54
  f2 : Int
  f3 : Bool
  f4 : Int
def zVA : VA := ⟨0, [], 0, false, 0⟩
def kVA : Kd VA := Kd.iso (Kd.pair (Kd.int .i64) (Kd.pair (Kd.slice 54 k54) (Kd.pair (Kd.int .i64) (Kd.pair (Kd.bool) (Kd.int .u64))))) (fun x : VA => (x.f0, x.f1, x.f2, x.f3, x.f4))
theorem kVA_open {w : World} {x : VA} {cs : List Value} (h : kVA.K w x cs) : ∃ A c, cs = [.int .i64 x.f0, .slice A x.f1.length c, .int .i64 x.f2, .bool x.f3, .int .u64 x.f4] ∧ x.f1.length ≤ c ∧ Kd.C k54 w A x.f1.length x.f1 := by
  obtain ⟨_, _, rfl, rfl, ⟨_, _, rfl, ⟨A, c, rfl, hl, hC⟩, ⟨_, _, rfl, rfl, ⟨_, _, rfl, rfl, rfl⟩⟩⟩⟩ := h
  exact ⟨A, c, rfl, hl, hC⟩
def rdA (xs : List VA) (i : Int) : VA := xs.getD i.toNat zVA
theorem at_A {w : World} {B : Option Addr} {n : Nat} {xs : List VA} (h : Kd.C kVA w B n xs) (i : Int) (h0 : 0 ≤ i) (h1 : i < n) : ∃ ad A c, B = some ad ∧ w.cell? (ad.add (i.toNat * 5)) = some (.int .i64 (rdA xs i).f0) ∧ w.cell? ⟨(ad.add (i.toNat * 5)).block, (ad.add (i.toNat * 5)).off + 1, none⟩ = some (.slice A (rdA xs i).f1.length c) ∧ w.cell? ⟨(ad.add (i.toNat * 5)).block, (ad.add (i.toNat * 5)).off + 2, none⟩ = some (.int .i64 (rdA xs i).f2) ∧ w.cell? ⟨(ad.add (i.toNat * 5)).block, (ad.add (i.toNat * 5)).off + 3, none⟩ = some (.bool (rdA xs i).f3) ∧ w.cell? ⟨(ad.add (i.toNat * 5)).block, (ad.add (i.toNat * 5)).off + 4, none⟩ = some (.int .u64 (rdA xs i).f4) ∧ (rdA xs i).f1.length ≤ c ∧ Kd.C k54 w A (rdA xs i).f1.length (rdA xs i).f1 := by
  obtain ⟨ad, cs, e, _, hK, hc0⟩ := Kd.C_get h zVA i h0 h1
  have hc : ∀ j u, cs[j]? = some u → w.cell? (ad.add (i.toNat * 5 + j)) = some u := hc0
  obtain ⟨A, c, rfl, hl, hC⟩ := kVA_open hK
  exact ⟨ad, A, c, e, hc 0 _ rfl, by rw [← add_field _ _ 1 (by omega)]; exact hc 1 _ rfl, by rw [← add_field _ _ 2 (by omega)]; exact hc 2 _ rfl, by rw [← add_field _ _ 3 (by omega)]; exact hc 3 _ rfl, by rw [← add_field _ _ 4 (by omega)]; exact hc 4 _ rfl, hl, hC⟩
theorem rdA_mem (l : List VA) (k : Nat) (hk : k < l.length) : rdA l (k : Int) ∈ l := by
  unfold rdA
  rw [Int.toNat_natCast, List.getD_eq_getElem?_getD, List.getElem?_eq_getElem hk]
  exact List.getElem_mem hk
/-- what the acts make of a state -/
noncomputable def runA (n : Nat) (s : VS) (xs : List VA) (k : Nat) : VS := (xs.take k).foldl (fun s x => actS n s x.f0 x.f1 x.f2 x.f3 x.f4) s
theorem runA_zero (n : Nat) (s : VS) (xs : List VA) : runA n s xs 0 = s := by unfold runA; rw [List.take_zero]; rfl
theorem runA_succ (n : Nat) (s : VS) (xs : List VA) (k : Nat) (hk : k < xs.length) : runA n s xs (k + 1) = actS n (runA n s xs k) (rdA xs k).f0 (rdA xs k).f1 (rdA xs k).f2 (rdA xs k).f3 (rdA xs k).f4 := by
  unfold runA
  rw [List.take_add_one, List.getElem?_eq_getElem hk, List.foldl_append]
  have : rdA xs (k : Int) = xs[k] := by unfold rdA; rw [Int.toNat_natCast, List.getD_eq_getElem?_getD, List.getElem?_eq_getElem hk]; rfl
  rw [this]; rfl
theorem runA_ok (n : Nat) (s : VS) (xs : List VA) (h : SOk n s) (h0 : s.lost = 0) (hx : xs.length ≤ 140737488351232) : ∀ k : Nat, k ≤ xs.length → SOk n (runA n s xs k) ∧ (runA n s xs k).lost ≤ k
  | 0, _ => by rw [runA_zero]; exact ⟨h, by omega⟩
  | k + 1, hk => by
    obtain ⟨q1, q2⟩ := runA_ok n s xs h h0 hx k (by omega)
    rw [runA_succ n s xs k (by omega)]
    obtain ⟨r1, r2⟩ := actS_ok n _ q1 (by omega) (rdA xs k).f0 (rdA xs k).f1 (rdA xs k).f2 (rdA xs k).f3 (rdA xs k).f4
    exact ⟨r1, by omega⟩
end Go.Proofs.Ytkbaghblchlcnaa.Lr
namespace Go.Proofs.Ytkbaghblchlcnaa.Lr
open Go.RowKit Go.Shelf Go.Proofs.YtkbaghblchlcnaaW.PrintWords Go.Proofs.Ytkbaghblchlcnaa.IAll
theorem blk_lt {w : World} {A : Option Addr} {ls : List S54} (h : Kd.C k54 w A ls.length ls) (ad : Addr) (e : A = some ad) (hn : 0 < ls.length) : ad.block < w.heap.size := by
  obtain ⟨ad', e', c0, _⟩ := at_T54 h 0 (by omega) (by omega)
  rw [e] at e'
  obtain rfl := Option.some.inj e'
  rcases Nat.lt_or_ge ad.block w.heap.size with q | q
  · exact q
  · exfalso
    have hz : w.heap[ad.block]? = none := Array.getElem?_eq_none q
    unfold World.cell? at c0
    simp [Addr.add, hz] at c0
/-- what a script must hold -/
structure ScOk (w : World) (B : Option Addr) (xs : List VA) : Prop where
  C : Kd.C kVA w B xs.length xs
  big : ∀ x ∈ xs, x.f1.length * 56 ≤ 140737488351232
  x0 : ∀ x ∈ xs, 0 ≤ x.f4
  x1 : ∀ x ∈ xs, x.f4 ≤ 18446744073709551615
  len : xs.length ≤ 140737488351232
attribute [local go_sem] Oper.semAt_some cell_row frozen_row isRow_setCell_eq rowAt_setCell_same rowAt_setCell_other isRow_alloc_eq rowAt_alloc rowAt_new rowAt_new' isRow_setRow_eq rowAt_setRow_same rowAt_setRow_other isRow_drew rowAt_drew size_setRow_ Lb_size Lb_at blk_ptr aggOf_agg below_alloc_e below_setCell_e below_setRow_e below_refl_e below_drew_r aside2_alloc_e aside2_setCell_e aside2_setRow_e aside2_drew_e aside2_refl_e aside2_drewN_e isRow_drewN rowAt_drewN below_drewN_e le_add_r offv_ptr one_lad zero_lad allOne_nil allOne_cons Value.oneCell' addr_at FA_size one_FA
attribute [local go_sem ↓] storeI storeC
attribute [local go_sem] eq2i eq2b eq2u
end Go.Proofs.Ytkbaghblchlcnaa.Lr
namespace Go.Proofs.Ytkbaghblchlcnaa.Lr
open Go.RowKit Go.Shelf Go.Proofs.YtkbaghblchlcnaaW.PrintWords Go.Proofs.Ytkbaghblchlcnaa.IAll
/-- why a maintenance interrupt would come -/
def asks (xs : List S54) (lost k : Int) : Bool := if k = 0 then bitsOf (places pDone xs) != 0 else if k = 1 then decide ((xs.length : Int) - (places pFree xs).length ≤ 1) else if k = 2 then decide (0 < lost) else if k = 3 then bitsOf (places pWaits xs) == 0 else false
attribute [local go_sem] Oper.semAt_some cell_row frozen_row isRow_setCell_eq rowAt_setCell_same rowAt_setCell_other isRow_alloc_eq rowAt_alloc rowAt_new rowAt_new' isRow_setRow_eq rowAt_setRow_same rowAt_setRow_other isRow_drew rowAt_drew size_setRow_ Lb_size Lb_at blk_ptr aggOf_agg below_alloc_e below_setCell_e below_setRow_e below_refl_e below_drew_r aside2_alloc_e aside2_setCell_e aside2_setRow_e aside2_drew_e aside2_refl_e aside2_drewN_e isRow_drewN rowAt_drewN below_drewN_e le_add_r offv_ptr one_lad zero_lad allOne_nil allOne_cons Value.oneCell' addr_at FA_size one_FA
attribute [local go_sem ↓] storeI storeC
attribute [local go_sem] eq2i eq2b eq2u
end Go.Proofs.Ytkbaghblchlcnaa.Lr
namespace Go.Proofs.Ytkbaghblchlcnaa.Lr
open Go.RowKit Go.Shelf Go.Proofs.YtkbaghblchlcnaaW.PrintWords Go.Proofs.Ytkbaghblchlcnaa.IAll
/-- the reasons below k -/
def rsn (xs : List S54) (lost : Int) : Nat → List Int
  | 0 => []
  | k + 1 => rsn xs lost k ++ (if asks xs lost k then [(k : Int)] else [])
theorem rsn_lt (xs : List S54) (lost : Int) : ∀ (k : Nat) (x : Int), x ∈ rsn xs lost k → 0 ≤ x ∧ x < k
  | 0, x, h => by cases h
  | k + 1, x, h => by
    rw [rsn, List.mem_append] at h
    rcases h with h | h
    · have := rsn_lt xs lost k x h; omega
    · split at h
      · rw [List.mem_singleton] at h; omega
      · cases h
theorem rsn_pre (xs : List S54) (lost : Int) (k : Nat) : ∀ d : Nat, ∃ post, rsn xs lost (k + d) = rsn xs lost k ++ post
  | 0 => ⟨[], by simp⟩
  | d + 1 => by
    obtain ⟨post, h⟩ := rsn_pre xs lost k d
    exact ⟨_, by rw [Nat.add_succ, rsn, h, List.append_assoc]⟩
theorem rsn_at (xs : List S54) (lost : Int) (k : Nat) (hk : k < 4) (h : asks xs lost k = true) : ∃ post, rsn xs lost 4 = rsn xs lost k ++ (k : Int) :: post := by
  obtain ⟨post, e⟩ := rsn_pre xs lost (k + 1) (4 - (k + 1))
  rw [show k + 1 + (4 - (k + 1)) = 4 by omega] at e
  exact ⟨post, by rw [e, rsn, if_pos h, List.append_assoc]; rfl⟩
attribute [local go_sem] Oper.semAt_some cell_row frozen_row isRow_setCell_eq rowAt_setCell_same rowAt_setCell_other isRow_alloc_eq rowAt_alloc rowAt_new rowAt_new' isRow_setRow_eq rowAt_setRow_same rowAt_setRow_other isRow_drew rowAt_drew size_setRow_ Lb_size Lb_at blk_ptr aggOf_agg below_alloc_e below_setCell_e below_setRow_e below_refl_e below_drew_r aside2_alloc_e aside2_setCell_e aside2_setRow_e aside2_drew_e aside2_refl_e aside2_drewN_e isRow_drewN rowAt_drewN below_drewN_e le_add_r offv_ptr one_lad zero_lad allOne_nil allOne_cons Value.oneCell' addr_at FA_size one_FA
attribute [local go_sem ↓] storeI storeC
attribute [local go_sem] eq2i eq2b eq2u
section
variable (g bl : Nat) (m p0 p1 : Int) (o0 o1 sp : Bool) (a b : Int) (n : Nat) (xs : List S54) (hn : xs.length = n) (h16 : n ≤ 16) (lost : Int) (hne : ¬ g = bl)
include hn h16 hne
end
end Go.Proofs.Ytkbaghblchlcnaa.Lr
namespace Go.Proofs.Ytkbaghblchlcnaa.Lr
open Go.RowKit Go.Shelf Go.Proofs.YtkbaghblchlcnaaW.PrintWords Go.Proofs.YtkbaghblchlcnaaW.PrintMore Go.Proofs.Ytkbaghblchlcnaa.IAll
attribute [local go_sem] Oper.semAt_some
def rsnV (w : World) : Value := .func (.func 90) #[] #[.pointer (some ⟨w.heap.size, 0, none⟩)]
theorem Reasons_c (g : Nat) (w : World) : Calls Try.prog 65 #[.pointer (some ⟨g, 0, none⟩)] w fun e w' => e = .returned (rsnV w) ∧ w.alloc (.cells #[.pointer (some ⟨g, 0, none⟩)] 24) = w' := by
  go_enter Try.func65, Try.ntmps65
  go_wp2
  go_ret
  exact ⟨rfl, rfl⟩
/-- the blocks that the iterator reads -/
def RsS (g bl h k : Nat) : Prop := k = g ∨ k = bl ∨ k = h
end Go.Proofs.Ytkbaghblchlcnaa.Lr
namespace Go.Proofs.Ytkbaghblchlcnaa.Lr
open Go.RowKit Go.Shelf Go.Proofs.YtkbaghblchlcnaaW.PrintWords Go.Proofs.Ytkbaghblchlcnaa.IAll
def exL : S54 := ⟨1, 40, 160, 1, false, 0, false⟩
def exA : S54 := ⟨2, 40, 160, 1, false, 0, false⟩
theorem exL_good : goodL [exL] := by
  rintro ⟨a, ha, h⟩
  have ha' : a = 0 := by simp at ha; omega
  subst ha'
  rcases h with h | ⟨q, hq, -⟩
  · exact h (by decide)
  · omega
theorem ex_loadN : loadN 2 [exL] = 0 := by unfold loadN; rw [if_neg (by decide), if_pos exL_good]
theorem ex_loadXs (xs : List S54) : loadXs 2 xs [exL] = [exL, z54] := by unfold loadXs; rw [if_neg (by decide), if_pos exL_good]; rfl
def ex0 (xs : List S54) (a b lost : Int) : VS := ⟨248, 0, 0, false, true, false, a, b, xs, lost⟩
theorem ex1 : doV (ex0 [exL, z54] 0 0 0) 2 false 0 = (ex0 [exA, z54] 0 1048576 0, ⟨40, false, -1, true⟩) := by kernel_rfl
theorem ex2 : bitsOf (rsn [exA, z54] 0 4) = 10 := by kernel_rfl
def ex3s : VS := (doV (ex0 [exA, z54] 0 1048576 0) 4 true 40).1
theorem ex3 : (doV (ex0 [exA, z54] 0 1048576 0) 4 true 40).2 = ⟨0, true, -1, true⟩ := by kernel_rfl
def ex4s : VS := (doV ex3s 2 false 0).1
theorem ex4 : (doV ex3s 2 false 0).2 = ⟨1023, false, -1, true⟩ := by kernel_rfl
def ex5s : VS := (doV ex4s 4 true 50).1
theorem ex5 : (doV ex4s 4 true 50).2 = ⟨0, false, -1, true⟩ := by kernel_rfl
theorem ex_ok (xs : List S54) (a b lost : Int) (h : xs.length = 2) (hs : stOk xs) (h0 : 0 ≤ lost) (h1 : lost ≤ 4611686018427387904) : SOk 2 (ex0 xs a b lost) := ⟨h, by omega, by omega, hs, h0, h1⟩
theorem ex3_ok : SOk 2 ex3s := ⟨by kernel_rfl, by omega, by omega, fun k hk => by
  have hk' : k < 2 := hk
  rcases (show k = 0 ∨ k = 1 by omega) with rfl | rfl <;> decide, by decide, by decide⟩
theorem ex4_ok : SOk 2 ex4s := ⟨by kernel_rfl, by omega, by omega, fun k hk => by
  have hk' : k < 2 := hk
  rcases (show k = 0 ∨ k = 1 by omega) with rfl | rfl <;> decide, by decide, by decide⟩
theorem exA_ok : SOk 2 (ex0 [exA, z54] 0 1048576 0) := ⟨rfl, by omega, by omega, fun k hk => by
  have hk' : k < 2 := hk
  rcases (show k = 0 ∨ k = 1 by omega) with rfl | rfl <;> decide, by decide, by decide⟩
end Go.Proofs.Ytkbaghblchlcnaa.Lr
namespace Go.Proofs.Ytkbaghblchlcnaa.Lr
open Go.RowKit Go.Shelf Go.Proofs.YtkbaghblchlcnaaW.PrintWords Go.Proofs.Ytkbaghblchlcnaa.IAll
/-- the walk stands still here -/
def Stop (p : Prop) : Prop := p
theorem stop_in {p : Prop} (h : Stop p) : p := h
theorem stop_out {p : Prop} (h : p) : Stop p := h
/-- these cells begin with those of some list registers -/
def Pre (cs : Array Value) (xs : List S54) : Prop := ∀ (j : Nat) (v : Value), (fl xs)[j]? = some v → cs[j]? = some v
theorem pre_kd {w : World} {g : Nat} {cs : Array Value} {xs : List S54} (h : isRow w g) (h' : rowAt w g = cs) (hp : Pre cs xs) (hn : xs.length ≤ 9223372036854775807) : Kd.C k54 w (some ⟨g, 0, none⟩) xs.length xs :=
  ⟨rfl, hn, fun _ => ⟨⟨g, 0, none⟩, rfl, fun j p hq => ⟨(enc p).toList, rfl, k54_mk w p, fun i u hu => by
    have hj : j < xs.length := (List.getElem?_eq_some_iff.1 hq).1
    have hi : i < 7 := by have := (List.getElem?_eq_some_iff.1 hu).1; simpa [enc] using this
    have ea : (⟨g, 0, none⟩ : Addr).add (j * 7 + i) = ⟨g, j * 7 + i, none⟩ := addr_at g _
    show w.cell? ((⟨g, 0, none⟩ : Addr).add (j * 7 + i)) = _
    rw [ea, cell_row h, h']
    refine hp _ _ ?_
    rw [fl_get xs j i hj hi, ← hu, List.getD_eq_getElem?_getD, hq]; rfl⟩⟩⟩
/-- what stands where some list registers have been copied to -/
theorem copied {W : World} {base : Nat} {v : Value} {xs : List S54} (h : k54.R 54 W base (fun _ => True) v xs) (hn : 0 < xs.length) : ∃ ob c cs, v = .slice (some ⟨ob, 0, none⟩) xs.length c ∧ xs.length ≤ c ∧ base ≤ ob ∧ Row W ob cs ∧ Pre cs xs := by
  obtain ⟨A1, c1, he, hc1, hC1⟩ := Kd.R_reads h
  obtain ⟨-, inner, hown, hreps⟩ := h
  obtain ⟨A, c, rfl, hc, hO⟩ := own_parts hown
  obtain ⟨ob, rfl, hb, o1, o2⟩ := hO hn
  obtain ⟨rfl, rfl⟩ : some ⟨ob, 0, none⟩ = A1 ∧ c = c1 := by injection he with a1 a2 a3; exact ⟨a1, a3⟩
  refine ⟨ob, c, rowAt W ob, rfl, hc, hb, ⟨o1, rfl⟩, fun j u hu => ?_⟩
  obtain ⟨ad, e, hq⟩ := C_cells hC1 hn
  obtain rfl := Option.some.inj e
  have := hq j u hu
  rwa [addr_at, cell_row o1] at this
theorem same_c {w : World} {ob bl c d : Nat} {cs : Array Value} {xs : List S54} (h16 : xs.length ≤ 16) (h : isRow w ob) (h' : rowAt w ob = cs) (hp : Pre cs xs) (hc : xs.length ≤ c) (hl : isRow w bl) (hl' : rowAt w bl = FA xs) (hd : xs.length ≤ d) :
    Calls Try.prog 21 #[.slice (some ⟨ob, 0, none⟩) xs.length c, .slice (some ⟨bl, 0, none⟩) xs.length d] w fun e w' => e = .returned (.bool true) ∧ Below w.heap.size w w' :=
  (crierlaw21_same.calls _ _ _ xs _ _ xs true w (pre_kd h h' hp (by omega)) hc (fa_kd hl hl' (by omega)) hd (same_is xs (by omega))).mono fun _ _ q => ⟨q.1, below_drawn0 q.2⟩
theorem infoL5 : (Try.prog.info? 54).map (fun i => (i.zero, i.size, i.bytes)) = some (some (.agg (enc z54)), k54.sz, 56) := by kernel_rfl
end Go.Proofs.Ytkbaghblchlcnaa.Lr
namespace Go.Proofs.Ytkbaghblchlcnaa.Lr
open Go.RowKit Go.Shelf Go.Proofs.YtkbaghblchlcnaaW.PrintWords Go.Proofs.Ytkbaghblchlcnaa.IAll
def FT (xs : List S54) (T : Array Value) : Array Value := FA xs ++ T
theorem FT_nil (xs : List S54) : FT xs #[] = FA xs := by unfold FT; simp
theorem FT_size (xs : List S54) (T : Array Value) : (FT xs T).size = xs.length * 7 + T.size := by unfold FT; rw [Array.size_append, FA_size]
theorem FT_lo (xs : List S54) (T : Array Value) (j : Nat) (hj : j < xs.length * 7) : (FT xs T)[j]? = (FA xs)[j]? := by
  unfold FT
  rw [Array.getElem?_append_left (by rw [FA_size]; exact hj)]
theorem FT_gets (xs : List S54) (T : Array Value) (k : Nat) (hk : k < xs.length) :
    (FT xs T)[k * 7]? = some (.int .i64 (rd_T54 xs k).f0) ∧ (FT xs T)[k * 7 + 1]? = some (.int .i64 (rd_T54 xs k).f1) ∧ (FT xs T)[k * 7 + 2]? = some (.int .i64 (rd_T54 xs k).f2) ∧ (FT xs T)[k * 7 + 3]? = some (.int .i64 (rd_T54 xs k).f3) ∧
    (FT xs T)[k * 7 + 4]? = some (.bool (rd_T54 xs k).f4) ∧ (FT xs T)[k * 7 + 5]? = some (.int .i64 (rd_T54 xs k).f5) ∧ (FT xs T)[k * 7 + 6]? = some (.bool (rd_T54 xs k).f6) := by
  obtain ⟨h0, h1, h2, h3, h4, h5, h6⟩ := FA_gets xs k hk
  refine ⟨?_, ?_, ?_, ?_, ?_, ?_, ?_⟩
  · rw [FT_lo _ _ _ (by omega)]; exact h0
  · rw [FT_lo _ _ _ (by omega)]; exact h1
  · rw [FT_lo _ _ _ (by omega)]; exact h2
  · rw [FT_lo _ _ _ (by omega)]; exact h3
  · rw [FT_lo _ _ _ (by omega)]; exact h4
  · rw [FT_lo _ _ _ (by omega)]; exact h5
  · rw [FT_lo _ _ _ (by omega)]; exact h6
theorem FT_set (xs : List S54) (T : Array Value) (k : Nat) (s : Int) (hk : k < xs.length) : (FT xs T).setIfInBounds (k * 7) (.int .i64 s) = FT (setSt xs k s) T := by
  unfold FT
  rw [← FA_set xs k s hk, Array.setIfInBounds_append_left (by rw [FA_size]; omega)]
theorem FT_set2 (xs : List S54) (T : Array Value) (k : Nat) (hk : k < xs.length) : ((FT xs T).setIfInBounds (k * 7) (.int .i64 2)).setIfInBounds (k * 7) (.int .i64 0) = FT (setSt xs k 0) T := by
  rw [Array.setIfInBounds_setIfInBounds, FT_set xs T k 0 hk]
theorem ft_pre (xs : List S54) (T : Array Value) : Pre (FT xs T) xs := fun j v hv => by
  have hj : j < xs.length * 7 := by have := (List.getElem?_eq_some_iff.1 hv).1; rwa [fl_length] at this
  rw [FT_lo _ _ _ hj]
  unfold FA
  rw [List.getElem?_toArray]; exact hv
theorem ft_kd {w : World} {g : Nat} {xs : List S54} {T : Array Value} (h : isRow w g) (h' : rowAt w g = FT xs T) (hn : xs.length ≤ 9223372036854775807) : Kd.C k54 w (some ⟨g, 0, none⟩) xs.length xs := pre_kd h h' (ft_pre xs T) hn
/-- a row that begins with some list registers is they and a tail -/
theorem pre_ft {cs : Array Value} {xs : List S54} (h : Pre cs xs) : ∃ T, cs = FT xs T := by
  refine ⟨(cs.toList.drop (xs.length * 7)).toArray, ?_⟩
  apply Array.ext'
  unfold FT FA
  simp only [Array.toList_append]
  rw [← List.take_append_drop (xs.length * 7) cs.toList]
  congr 1
  · apply List.ext_getElem?
    intro j
    by_cases hj : j < xs.length * 7
    · rw [List.getElem?_take_of_lt hj]
      have hv := List.getElem?_eq_getElem (l := fl xs) (show j < (fl xs).length by rw [fl_length]; exact hj)
      rw [hv, Array.getElem?_toList]
      exact h j _ hv
    · rw [List.getElem?_eq_none (by rw [List.length_take]; omega), List.getElem?_eq_none (by rw [fl_length]; omega)]
  · simp
end Go.Proofs.Ytkbaghblchlcnaa.Lr
namespace Go.Proofs.Ytkbaghblchlcnaa.Lr.Wd
open Go.RowKit Go.Shelf Go.Proofs.YtkbaghblchlcnaaW.PrintWords Go.Proofs.Ytkbaghblchlcnaa.IAll
section
variable {bl : Nat} {xs : List S54} {cc : Nat} {T : Array Value} (hx : xs.length ≤ 16) {W : World} (h : isRow W bl) (h' : rowAt W bl = FT xs T)
include hx h h'
theorem vfind (id : Int) : Calls Try.prog 22 #[.slice (some ⟨bl, 0, none⟩) xs.length cc, .int .i64 id] W fun e w' => e = .returned (.int .i64 (findOf xs id)) ∧ Below W.heap.size W w' :=
  Find_c _ _ xs id W (ft_kd h h' (by omega)) (by omega)
theorem vbest : Calls Try.prog 40 #[.slice (some ⟨bl, 0, none⟩) xs.length cc] W fun e w' => e = .returned (.agg #[.int .i64 (best xs).id, .int .i64 (best xs).pr, .int .i64 (best xs).gr, .bool (best xs).is]) ∧ Below W.heap.size W w' :=
  Best_c _ _ xs W (ft_kd h h' (by omega)) (by omega)
end
theorem end_c (g bl : Nat) (m p0 p1 : Int) (o0 o1 sp : Bool) (a b : Int) (xs : List S54) (cc : Nat) (T : Array Value) (hx : xs.length ≤ 16) (hst : stOk xs) (lost id : Int) (hlo : 0 ≤ lost) (hlo2 : lost ≤ 4611686018427387904) (hne : ¬ g = bl) (w : World)
    (hr : isRow w g) (hr' : rowAt w g = #[.int .i64 m, .int .i64 p0, .int .i64 p1, .bool o0, .bool o1, .bool sp, .int .u32 a, .int .u32 b, .slice (some ⟨bl, 0, none⟩) xs.length cc, .int .i64 lost]) (hl : isRow w bl) (hl' : rowAt w bl = FT xs T) :
    Calls Try.prog 49 #[.pointer (some ⟨g, 0, none⟩), .int .i64 id] w fun e w' => e = .returned (.agg #[.bool (endOk xs id), .int .i64 (endM xs id)]) ∧
      Row w' g #[.int .i64 m, .int .i64 p0, .int .i64 p1, .bool o0, .bool o1, .bool sp, .int .u32 a, .int .u32 b, .slice (some ⟨bl, 0, none⟩) xs.length cc, .int .i64 (endLost xs id lost)] ∧ Row w' bl (FT (endXs xs id) T) ∧ Aside2 g bl w w' := by
  have hne' : ¬ bl = g := fun e => hne e.symm
  have HF := Lib.hid (fun (W : World) (h : isRow W bl) (h' : rowAt W bl = FT xs T) => vfind (cc := cc) hx h h' id)
  rcases find_range xs id with hf | ⟨k, hf, hk, _, _⟩
  · have hok : endOk xs id = false := by unfold endOk; rw [hf]; rfl
    have hm : endM xs id = -1 := by unfold endM; rw [hok]; rfl
    have hxs : endXs xs id = xs := by unfold endXs; rw [hok]; rfl
    rw [hok, hm, hxs]
    rw [hf] at HF
    by_cases hid : id < 1020
    · have hlost : endLost xs id lost = lost + 1 := by unfold endLost; rw [hok, if_pos hid]; rfl
      rw [hlost]
      exact end_A g bl m p0 p1 o0 o1 sp a b xs.length cc (FT xs T) lost id w hr hr' hl hl' hne hne' hlo hlo2 hid HF
    · have hlost : endLost xs id lost = lost := by unfold endLost; rw [hok, if_neg hid]; rfl
      rw [hlost]
      exact end_B g bl m p0 p1 o0 o1 sp a b xs.length cc (FT xs T) lost id w hr hr' hl hl' hne hne' hlo hlo2 hid HF
  · rw [hf] at HF
    obtain ⟨c0, _, _, _, c4, c5, _⟩ := FT_gets xs T k hk
    have hs3 := hst k hk
    by_cases h2 : 2 ≤ (rd_T54 xs k).f0
    · have hok : endOk xs id = true := by unfold endOk; rw [hf, decide_eq_true (show (0 : Int) ≤ (k : Int) by omega), decide_eq_true h2]; rfl
      have hxs : endXs xs id = setSt xs k ((rd_T54 xs k).f0 - 2) := by unfold endXs; rw [hok, if_pos rfl, hf, Int.toNat_natCast]
      have hlost : endLost xs id lost = lost := by unfold endLost; rw [hok]; rfl
      rw [hok, hxs, hlost, ← FT_set xs T k _ hk]
      cases h4 : (rd_T54 xs k).f4 with
      | true =>
        have hm : endM xs id = (rd_T54 xs k).f5 := by unfold endM; rw [hok, if_pos rfl, hf, if_pos h4]
        rw [hm]
        rw [h4] at c4
        exact end_E g bl m p0 p1 o0 o1 sp a b xs.length cc (FT xs T) lost id w hr hr' hl hl' hne hne' hlo hlo2 k hk _ c0 _ c4 c5 h2 hs3 HF
      | false =>
        have hm : endM xs id = -1 := by unfold endM; rw [hok, if_pos rfl, hf, if_neg (by rw [h4]; decide)]
        rw [hm]
        rw [h4] at c4
        exact end_F g bl m p0 p1 o0 o1 sp a b xs.length cc (FT xs T) lost id w hr hr' hl hl' hne hne' hlo hlo2 k hk _ c0 c4 h2 hs3 HF
    · have hok : endOk xs id = false := by unfold endOk; rw [hf, decide_eq_false h2]; simp
      have hm : endM xs id = -1 := by unfold endM; rw [hok]; rfl
      have hxs : endXs xs id = xs := by unfold endXs; rw [hok]; rfl
      rw [hok, hm, hxs]
      by_cases hid : id < 1020
      · have hlost : endLost xs id lost = lost + 1 := by unfold endLost; rw [hok, if_pos hid]; rfl
        rw [hlost]
        exact end_C g bl m p0 p1 o0 o1 sp a b xs.length cc (FT xs T) lost id w hr hr' hl hl' hne hne' hlo hlo2 k hk _ c0 (by omega) hid HF
      · have hlost : endLost xs id lost = lost := by unfold endLost; rw [hok, if_neg hid]; rfl
        rw [hlost]
        exact end_D g bl m p0 p1 o0 o1 sp a b xs.length cc (FT xs T) lost id w hr hr' hl hl' hne hne' hlo hlo2 k hk _ c0 (by omega) hid HF
theorem ack_c (g bl : Nat) (m p0 p1 : Int) (o0 o1 sp : Bool) (a b : Int) (xs : List S54) (cc : Nat) (T : Array Value) (hx : xs.length ≤ 16) (lost gp : Int) (hne : ¬ g = bl) (w : World)
    (hr : isRow w g) (hr' : rowAt w g = #[.int .i64 m, .int .i64 p0, .int .i64 p1, .bool o0, .bool o1, .bool sp, .int .u32 a, .int .u32 b, .slice (some ⟨bl, 0, none⟩) xs.length cc, .int .i64 lost]) (hl : isRow w bl) (hl' : rowAt w bl = FT xs T) :
    Calls Try.prog 17 #[.pointer (some ⟨g, 0, none⟩), .int .i64 gp] w fun e w' => e = .returned (.int .i64 (ackId m p0 p1 o0 o1 a b xs gp)) ∧
      Row w' g #[.int .i64 m, .int .i64 p0, .int .i64 p1, .bool o0, .bool o1, .bool sp, .int .u32 (ackA m p0 p1 o0 o1 a b xs gp), .int .u32 (ackB m p0 p1 o0 o1 a b xs gp), .slice (some ⟨bl, 0, none⟩) xs.length cc, .int .i64 lost] ∧ Row w' bl (FT (ackXs m p0 p1 o0 o1 a b xs gp) T) ∧ Aside2 g bl w w' := by
  have hne' : ¬ bl = g := fun e => hne e.symm
  have HB := Lib.hid (fun (W : World) (h1 : isRow W g) (h1' : rowAt W g = #[.int .i64 m, .int .i64 p0, .int .i64 p1, .bool o0, .bool o1, .bool sp, .int .u32 a, .int .u32 b, .slice (some ⟨bl, 0, none⟩) xs.length cc, .int .i64 lost]) (h2 : isRow W bl) (h2' : rowAt W bl = FT xs T) =>
    vBest_w g bl m p0 p1 o0 o1 sp a b xs.length cc (FT xs T) lost (best xs).id (best xs).pr (best xs).gr (best xs).is W h1 h1' h2 h2' (Lib.hid (fun (W' : World) (h : isRow W' bl) (h' : rowAt W' bl = FT xs T) => vbest (cc := cc) hx h h')))
  have HT := Lib.hid (fun (W : World) (h1 : isRow W g) (h1' : rowAt W g = #[.int .i64 m, .int .i64 p0, .int .i64 p1, .bool o0, .bool o1, .bool sp, .int .u32 a, .int .u32 b, .slice (some ⟨bl, 0, none⟩) xs.length cc, .int .i64 lost]) =>
    Take_c g m p0 p1 o0 o1 sp a b _ _ (best xs).id (best xs).pr (best xs).gr (best xs).is gp W h1 h1')
  have HF := Lib.hid (fun (W : World) (h : isRow W bl) (h' : rowAt W bl = FT xs T) => vfind (cc := cc) hx h h' (best xs).id)
  have hTd : takeB m p0 p1 o0 o1 a b (best xs).pr (best xs).gr (best xs).is gp = ackT m p0 p1 o0 o1 a b xs gp := rfl
  rw [hTd] at HT
  unfold ackId ackXs ackA ackB
  cases hT : ackT m p0 p1 o0 o1 a b xs gp with
  | false =>
    rw [hT] at HT
    simp only [Bool.false_eq_true, if_false] at HT ⊢
    exact ack_no g bl m p0 p1 o0 o1 sp a b a b xs.length cc (FT xs T) lost (best xs).id (best xs).pr (best xs).gr (best xs).is gp w hr hr' hl hl' hne hne' HB HT
  | true =>
    rw [hT] at HT
    simp only [if_true] at HT ⊢
    obtain ⟨k, hf, hk⟩ := best_find xs (ackT_is m p0 p1 o0 o1 a b xs gp hT)
    rw [hf] at HF
    rw [hf, Int.toNat_natCast]
    have c0 := (FT_gets xs T k hk).1
    by_cases hid : 8192 ≤ (best xs).id
    · rw [if_pos hid, ← FT_set2 xs T k hk]
      exact ack_hi g bl m p0 p1 o0 o1 sp a b _ _ xs.length cc (FT xs T) lost (best xs).id (best xs).pr (best xs).gr (best xs).is gp w hr hr' hl hl' hne hne' k hk hid _ c0 HF HB HT
    · rw [if_neg hid, ← FT_set xs T k 2 hk]
      exact ack_lo g bl m p0 p1 o0 o1 sp a b _ _ xs.length cc (FT xs T) lost (best xs).id (best xs).pr (best xs).gr (best xs).is gp w hr hr' hl hl' hne hne' k hk hid _ c0 HF HB HT
section
variable (g bl : Nat) (m p0 p1 : Int) (o0 o1 sp : Bool) (a b : Int) (xs : List S54) (cc : Nat) (T : Array Value) (hx : xs.length ≤ 16) (hst : stOk xs) (lost gp id : Int) (hlo : 0 ≤ lost) (hlo2 : lost ≤ 4611686018427387904) (hne : ¬ g = bl) (w : World)
include hx hst hlo hlo2 hne
theorem eoi_c (hr : isRow w g) (hr' : rowAt w g = #[.int .i64 m, .int .i64 p0, .int .i64 p1, .bool o0, .bool o1, .bool sp, .int .u32 a, .int .u32 b, .slice (some ⟨bl, 0, none⟩) xs.length cc, .int .i64 lost]) (hl : isRow w bl) (hl' : rowAt w bl = FT xs T) :
    Calls Try.prog 23 #[.pointer (some ⟨g, 0, none⟩), .int .i64 gp, .int .i64 id] w fun e w' => e = .returned (.agg #[.bool (gOk id xs (eoiGo sp a b gp id)), .int .i64 (gM id xs (eoiGo sp a b gp id))]) ∧
      Row w' g #[.int .i64 m, .int .i64 p0, .int .i64 p1, .bool o0, .bool o1, .bool sp, .int .u32 (eoiA a b gp id), .int .u32 (eoiB a b gp id), .slice (some ⟨bl, 0, none⟩) xs.length cc, .int .i64 (gLost id xs (eoiGo sp a b gp id) lost)] ∧ Row w' bl (FT (gXs id xs (eoiGo sp a b gp id)) T) ∧ Aside2 g bl w w' := by
  have hne' : ¬ bl = g := fun e => hne e.symm
  have HR := Lib.hid (fun W : World => real_v id W)
  unfold eoiGo eoiA eoiB gOk gM gXs gLost
  cases h1 : realC id with
  | false =>
    rw [h1] at HR
    simp only [Bool.false_and, Bool.false_eq_true, if_false]
    exact eoi_1 g bl m p0 p1 o0 o1 sp a b xs.length cc (FT xs T) lost gp id w hr hr' hl hl' hne hne' HR
  | true =>
    rw [h1] at HR
    simp only [Bool.true_and]
    cases h2 : dropB' a b gp with
    | false =>
      have HD := Lib.hid (fun (W : World) (q : isRow W g) (q' : rowAt W g = #[.int .i64 m, .int .i64 p0, .int .i64 p1, .bool o0, .bool o1, .bool sp, .int .u32 a, .int .u32 b, .slice (some ⟨bl, 0, none⟩) xs.length cc, .int .i64 lost]) => IfDrop_c g m p0 p1 o0 o1 sp a b _ _ gp W q q')
      rw [h2] at HD
      simp only [Bool.false_eq_true, if_false] at HD
      simp only [Bool.false_and, Bool.false_eq_true, if_false]
      exact eoi_2 g bl m p0 p1 o0 o1 sp a b xs.length cc (FT xs T) lost gp id w hr hr' hl hl' hne hne' HR HD
    | true =>
      have HD := Lib.hid (fun (W : World) (q : isRow W g) (q' : rowAt W g = #[.int .i64 m, .int .i64 p0, .int .i64 p1, .bool o0, .bool o1, .bool sp, .int .u32 a, .int .u32 b, .slice (some ⟨bl, 0, none⟩) xs.length cc, .int .i64 lost]) => IfDrop_c g m p0 p1 o0 o1 sp a b _ _ gp W q q')
      rw [h2] at HD
      simp only [if_true] at HD
      cases sp with
      | true =>
        simp only [Bool.not_true, Bool.and_false, Bool.false_eq_true, if_false, if_true]
        exact eoi_3 g bl m p0 p1 o0 o1 a b _ _ xs.length cc (FT xs T) lost gp id w hr hr' hl hl' hne hne' HR HD
      | false =>
        simp only [Bool.not_false, Bool.and_true, if_true]
        have HE := Lib.hid (fun (W : World) (q : isRow W g) (q' : rowAt W g = #[.int .i64 m, .int .i64 p0, .int .i64 p1, .bool o0, .bool o1, .bool false, .int .u32 (dropA a b), .int .u32 (dropB a b), .slice (some ⟨bl, 0, none⟩) xs.length cc, .int .i64 lost]) (k : isRow W bl) (k' : rowAt W bl = FT xs T) =>
          end_c g bl m p0 p1 o0 o1 false (dropA a b) (dropB a b) xs cc T hx hst lost id hlo hlo2 hne W q q' k k')
        exact eoi_4 g bl m p0 p1 o0 o1 a b _ _ xs.length cc (FT xs T) _ lost _ _ gp id _ w hr hr' hl hl' hne hne' HR HD HE
theorem dir_c (hr : isRow w g) (hr' : rowAt w g = #[.int .i64 m, .int .i64 p0, .int .i64 p1, .bool o0, .bool o1, .bool sp, .int .u32 a, .int .u32 b, .slice (some ⟨bl, 0, none⟩) xs.length cc, .int .i64 lost]) (hl : isRow w bl) (hl' : rowAt w bl = FT xs T) :
    Calls Try.prog 24 #[.pointer (some ⟨g, 0, none⟩), .int .i64 id] w fun e w' => e = .returned (.agg #[.bool (gOk id xs (dirGo sp id)), .int .i64 (gM id xs (dirGo sp id))]) ∧
      Row w' g #[.int .i64 m, .int .i64 p0, .int .i64 p1, .bool o0, .bool o1, .bool sp, .int .u32 a, .int .u32 b, .slice (some ⟨bl, 0, none⟩) xs.length cc, .int .i64 (gLost id xs (dirGo sp id) lost)] ∧ Row w' bl (FT (gXs id xs (dirGo sp id)) T) ∧ Aside2 g bl w w' := by
  have hne' : ¬ bl = g := fun e => hne e.symm
  have HR := Lib.hid (fun W : World => real_v id W)
  unfold dirGo gOk gM gXs gLost
  cases h1 : realC id with
  | false =>
    rw [h1] at HR
    simp only [Bool.false_and, Bool.false_eq_true, if_false]
    exact dir_1 g bl m p0 p1 o0 o1 sp a b xs.length cc (FT xs T) lost id w hr hr' hl hl' hne hne' HR
  | true =>
    rw [h1] at HR
    simp only [Bool.true_and]
    cases sp with
    | false =>
      simp only [Bool.false_eq_true, if_false]
      exact dir_2 g bl m p0 p1 o0 o1 a b xs.length cc (FT xs T) lost id w hr hr' hl hl' hne hne' HR
    | true =>
      simp only [if_true]
      have HE := Lib.hid (fun (W : World) (q : isRow W g) (q' : rowAt W g = #[.int .i64 m, .int .i64 p0, .int .i64 p1, .bool o0, .bool o1, .bool true, .int .u32 a, .int .u32 b, .slice (some ⟨bl, 0, none⟩) xs.length cc, .int .i64 lost]) (k : isRow W bl) (k' : rowAt W bl = FT xs T) =>
        end_c g bl m p0 p1 o0 o1 true a b xs cc T hx hst lost id hlo hlo2 hne W q q' k k')
      exact dir_4 g bl m p0 p1 o0 o1 a b xs.length cc (FT xs T) _ lost _ _ id _ w hr hr' hl hl' hne hne' HR HE
end
/-- a state, and where it lies: capacity and tail -/
def vrow (n cc bl : Nat) (s : VS) : Array Value := #[.int .i64 s.m, .int .i64 s.p0, .int .i64 s.p1, .bool s.o0, .bool s.o1, .bool s.sp, .int .u32 s.a, .int .u32 s.b, .slice (some ⟨bl, 0, none⟩) n cc, .int .i64 s.lost]
section
variable (n g bl cc : Nat) (T : Array Value) (s : VS) (h : SOk n s) (hne : ¬ g = bl) (w : World) (hl : isRow w bl) (hl' : rowAt w bl = FT s.xs T)
include h hne hl hl'
theorem vdo_c (hr : isRow w g) (hr' : rowAt w g = vrow n cc bl s) (r : Int) (wr : Bool) (x : Int) :
    Calls Try.prog 28 #[.pointer (some ⟨g, 0, none⟩), .int .i64 r, .bool wr, .int .u64 x] w fun e w' => e = .returned (.tuple #[.int .u64 (doV s r wr x).2.n, .agg #[.bool (doV s r wr x).2.ok, .int .i64 (doV s r wr x).2.mm], .bool (doV s r wr x).2.is]) ∧
      Row w' g (vrow n cc bl (doV s r wr x).1) ∧ Row w' bl (FT (doV s r wr x).1.xs T) ∧ Aside2 g bl w w' := by
  obtain ⟨rfl, h16, h0, hst, hlo, hhi⟩ := h
  have hne' : ¬ bl = g := fun e => hne e.symm
  have hy := and24 x
  have y0 : 0 ≤ x % 16777216 := by omega
  have y1 : x % 16777216 ≤ 16777215 := by omega
  obtain ⟨m, p0, p1, o0, o1, sp, a, b, xs, lost⟩ := s
  unfold doV
  unfold vrow at hr' ⊢
  cases wr with
  | false =>
    simp only [if_true]
    have HA := fun gp : Int => Lib.hid (fun (W : World) q1 q2 q3 q4 => ack_c g bl m p0 p1 o0 o1 sp a b xs cc T h16 lost gp hne W q1 q2 q3 q4)
    have HB := Lib.hid (fun (W : World) (q1 : isRow W g) (q2 : rowAt W g = #[.int .i64 m, .int .i64 p0, .int .i64 p1, .bool o0, .bool o1, .bool sp, .int .u32 a, .int .u32 b, .slice (some ⟨bl, 0, none⟩) xs.length cc, .int .i64 lost]) (q3 : isRow W bl) (q4 : rowAt W bl = FT xs T) =>
      vBest_w g bl m p0 p1 o0 o1 sp a b xs.length cc (FT xs T) lost (best xs).id (best xs).pr (best xs).gr (best xs).is W q1 q2 q3 q4 (Lib.hid (fun (W' : World) (h : isRow W' bl) (h' : rowAt W' bl = FT xs T) => vbest (cc := cc) h16 h h')))
    by_cases r1 : r = 1
    · subst r1; rw [if_pos rfl]
      exact do_a0 g bl m p0 p1 o0 o1 sp a b xs.length cc (FT xs T) lost _ _ _ _ _ _ _ _ _ _ w hr hr' hl hl' hne hne' x _ hy y0 y1 _ (HA 0)
    by_cases r2 : r = 2
    · subst r2; rw [if_neg (by decide), if_pos rfl]
      exact do_a1 g bl m p0 p1 o0 o1 sp a b xs.length cc (FT xs T) lost _ _ _ _ _ _ _ _ _ _ w hr hr' hl hl' hne hne' x _ hy y0 y1 _ (HA 1)
    by_cases r13 : r = 13
    · subst r13; rw [if_neg (by decide), if_neg (by decide), if_pos rfl]
      exact do_s0 g bl m p0 p1 o0 o1 sp a b xs.length cc (FT xs T) lost w hr hr' hl hl' hne hne' x _ hy y0 y1 _ _ _ _ _ HB (Lib.hid (shows_v ⟨m, p0, p1, o0, o1, sp, a, b, xs, lost⟩ 0))
    by_cases r14 : r = 14
    · subst r14; rw [if_neg (by decide), if_neg (by decide), if_neg (by decide), if_pos rfl]
      exact do_s1 g bl m p0 p1 o0 o1 sp a b xs.length cc (FT xs T) lost w hr hr' hl hl' hne hne' x _ hy y0 y1 _ _ _ _ _ HB (Lib.hid (shows_v ⟨m, p0, p1, o0, o1, sp, a, b, xs, lost⟩ 1))
    rw [if_neg r1, if_neg r2, if_neg r13, if_neg r14]
    exact do_r g bl m p0 p1 o0 o1 sp a b xs.length cc (FT xs T) lost w hr hr' hl hl' hne hne' x _ hy y0 y1 r (nbeq r1) (nbeq r2) (nbeq r13) (nbeq r14) _ _ (Lib.hid (Read_c m p0 p1 o0 o1 sp a b r))
  | true =>
    rw [if_neg (by decide)]
    have HE := fun gp : Int => Lib.hid (fun (W : World) q1 q2 q3 q4 => eoi_c g bl m p0 p1 o0 o1 sp a b xs cc T h16 hst lost gp (x % 16777216) hlo hhi hne W q1 q2 q3 q4)
    have HD := Lib.hid (fun (W : World) q1 q2 q3 q4 => dir_c g bl m p0 p1 o0 o1 sp a b xs cc T h16 hst lost (x % 16777216) hlo hhi hne W q1 q2 q3 q4)
    by_cases r3 : r = 3
    · subst r3; rw [if_pos rfl]
      exact do_e0 g bl m p0 p1 o0 o1 sp a b xs.length cc (FT xs T) lost _ _ _ _ _ _ _ _ _ _ w hr hr' hl hl' hne hne' x _ hy y0 y1 _ _ (HE 0)
    by_cases r4 : r = 4
    · subst r4; rw [if_neg (by decide), if_pos rfl]
      exact do_e1 g bl m p0 p1 o0 o1 sp a b xs.length cc (FT xs T) lost _ _ _ _ _ _ _ _ _ _ w hr hr' hl hl' hne hne' x _ hy y0 y1 _ _ (HE 1)
    by_cases r5 : r = 5
    · subst r5; rw [if_neg (by decide), if_neg (by decide), if_pos rfl]
      exact do_d g bl m p0 p1 o0 o1 sp a b xs.length cc (FT xs T) lost _ _ _ _ _ _ _ _ _ _ w hr hr' hl hl' hne hne' x _ hy y0 y1 _ _ HD
    rw [if_neg r3, if_neg r4, if_neg r5]
    exact do_w g bl m p0 p1 o0 o1 sp a b xs.length cc (FT xs T) lost _ _ _ _ _ _ _ _ w hr hr' hl hl' hne hne' x _ hy y0 y1 r (nbeq r3) (nbeq r4) (nbeq r5) _ (Lib.hid (fun (W : World) q1 q2 => Write_c g m p0 p1 o0 o1 sp a b _ _ r x W q1 q2))
end
end Go.Proofs.Ytkbaghblchlcnaa.Lr.Wd
namespace Go.Proofs.Ytkbaghblchlcnaa.Lr.Wd
open Go.RowKit Go.Shelf Go.Proofs.YtkbaghblchlcnaaW.PrintWords Go.Proofs.Ytkbaghblchlcnaa.IAll
theorem run_clear_rowT {w : World} {bl n c : Nat} {ty : TypeId} (h : isRow w bl) (hs : n * 7 ≤ (rowAt w bl).size) (hn : 0 < n) :
    (Builtin.clear_ #[22] ty #[.slice (some ⟨bl, 0, none⟩) n c]).run Try.prog w = .ok (.tuple #[]) (w.setRow bl (spl (rowAt w bl) 0 (FA (List.replicate n z54)))) := by
  obtain ⟨t, ht⟩ := h.box
  have hst := run_storeCells_at Try.prog bl 0 t (fl (List.replicate n z54)) 0 (rowAt w bl) w ht (by rw [fl_length]; simp; omega) (one_fl _)
  have hfin : ((rowAt w bl).toList.take (0 + 0) ++ fl (List.replicate n z54) ++ (rowAt w bl).toList.drop (0 + 0 + (fl (List.replicate n z54)).length)).toArray = spl (rowAt w bl) 0 (FA (List.replicate n z54)) := by
    unfold spl FA; simp
  rw [hfin] at hst
  obtain ⟨k, rfl⟩ : ∃ k, n = k + 1 := ⟨n - 1, by omega⟩
  have hz : (Builtin.zeroCells (Value.agg #[.int .i64 0, .int .i64 0, .int .i64 0, .int .i64 0, .bool false, .int .i64 0, .bool false]).cells (k + 1)).toList = fl (List.replicate (k + 1) z54) := by
    show (Builtin.zeroCells (enc z54) (k + 1)).toList = _
    rw [zeroCells_FA]; rfl
  simp [Builtin.clear_, run_underlying Try.underlying22, hz, hst]
theorem run_copy_rowT {w : World} {bl n c c' : Nat} {ty : TypeId} {A : Option Addr} {ls : List S54} (h : isRow w bl) (hs : n * 7 ≤ (rowAt w bl).size) (hC : Kd.C k54 w A ls.length ls) (hk : ls.length ≤ n) :
    (Builtin.copy_ #[22, 22] ty #[.slice (some ⟨bl, 0, none⟩) n c, .slice A ls.length c']).run Try.prog w = .ok (goInt ls.length) (w.setRow bl (spl (rowAt w bl) 0 (FA ls))) := by
  obtain ⟨t, ht⟩ := h.box
  have hst := run_storeCells_at Try.prog bl 0 t (fl ls) 0 (rowAt w bl) w ht (by rw [fl_length]; omega) (one_fl _)
  have hfin : ((rowAt w bl).toList.take (0 + 0) ++ fl ls ++ (rowAt w bl).toList.drop (0 + 0 + (fl ls).length)).toArray = spl (rowAt w bl) 0 (FA ls) := by
    unfold spl FA; simp
  rw [hfin] at hst
  have hmin : Nat.min ls.length n = ls.length := Nat.min_eq_left hk
  have hsz : (Go.sizeOf 54).run Try.prog w = .ok 7 w := by
    obtain ⟨i, hi, hi7⟩ := Option.map_eq_some_iff.1 infoLz
    simp [Go.sizeOf, typeInfo, hi, hi7]
  have hfirst : (Builtin.firstCells 7 ls.length (.slice A ls.length c')).run Try.prog w = .ok (FA ls) w := by
    by_cases h0 : ls.length = 0
    · obtain rfl : ls = [] := List.eq_nil_of_length_eq_zero h0
      cases A with
      | none => simp [Builtin.firstCells, FA, fl]
      | some ad => simp [Builtin.firstCells, FA, fl, loadCells, loadCellsFrom]
    · obtain ⟨ad, rfl, hc⟩ := C_cells hC (by omega)
      exact run_firstCells_some w 7 ls.length ad ls.length c' (fl ls) (fl_length ls) hc
  simp only [Builtin.copy_, Builtin.lenOf]
  simp [run_underlying Try.underlying22, hmin, hsz, hfirst, FA, hst]
/-- what is stored ahead of the tail -/
theorem spl_FT (xs ys : List S54) (T : Array Value) (h : ys.length ≤ xs.length) : spl (FT xs T) 0 (FA ys) = FT (ys ++ xs.drop ys.length) T := by
  have hys : (FA ys).size = ys.length * 7 := FA_size ys
  unfold spl
  rw [hys]
  apply Array.ext'
  unfold FT FA
  rw [fl_append, ← fl_drop]
  simp only [Array.toList_append, List.take_zero, List.nil_append, Nat.zero_add]
  rw [List.drop_append_of_le_length (by rw [fl_length]; omega), List.append_assoc]
theorem spl_load (xs ls : List S54) (T : Array Value) (h : ls.length ≤ xs.length) : spl (spl (FT xs T) 0 (FA (List.replicate xs.length z54))) 0 (FA ls) = FT (ls ++ List.replicate (xs.length - ls.length) z54) T := by
  rw [spl_FT xs _ T (by simp), List.drop_of_length_le (by simp), List.append_nil, spl_FT _ _ T (by simpa using h), List.drop_replicate]
theorem spl_free (xs : List S54) (T : Array Value) : spl (FT xs T) 0 (FA (List.replicate xs.length z54)) = FT (List.replicate xs.length z54) T := by
  rw [spl_FT xs _ T (by simp), List.drop_of_length_le (by simp), List.append_nil]
end Go.Proofs.Ytkbaghblchlcnaa.Lr.Wd
namespace Go.Proofs.Ytkbaghblchlcnaa.Lr.Wd
open Go.RowKit Go.Shelf Go.Proofs.YtkbaghblchlcnaaW.PrintWords Go.Proofs.Ytkbaghblchlcnaa.IAll
attribute [local go_sem] Oper.semAt_some cell_row frozen_row isRow_setCell_eq rowAt_setCell_same rowAt_setCell_other isRow_alloc_eq rowAt_alloc rowAt_new rowAt_new' isRow_setRow_eq rowAt_setRow_same rowAt_setRow_other isRow_drew rowAt_drew size_setRow_ Lb_size Lb_at blk_ptr aggOf_agg below_alloc_e below_setCell_e below_setRow_e below_refl_e below_drew_r aside2_alloc_e aside2_setCell_e aside2_setRow_e aside2_drew_e aside2_refl_e aside2_drewN_e isRow_drewN rowAt_drewN below_drewN_e le_add_r offv_ptr one_lad zero_lad allOne_nil allOne_cons Value.oneCell' addr_at FA_size one_FA
attribute [local go_sem ↓] storeI storeC storeE run_clear_rowT run_copy_rowT
attribute [local go_sem] eq2i eq2b eq2u
set_option maxRecDepth 100000 in
set_option maxHeartbeats 4000000 in
theorem load_big (g bl : Nat) (m p0 p1 : Int) (o0 o1 sp : Bool) (a b : Int) (n cc : Nat) (C : Array Value) (lost : Int) (A : Option Addr) (c : Nat) (ls : List S54) (w : World) (hr : isRow w g) (hr' : rowAt w g = #[.int .i64 m, .int .i64 p0, .int .i64 p1, .bool o0, .bool o1, .bool sp, .int .u32 a, .int .u32 b, .slice (some ⟨bl, 0, none⟩) n cc, .int .i64 lost]) (hl : isRow w bl) (hl' : rowAt w bl = C) (hne : ¬ g = bl) (hne' : ¬ bl = g) (hlt : n < ls.length) :
    Calls Try.prog 16 #[.pointer (some ⟨g, 0, none⟩), .slice A ls.length c] w fun e w' => e = .returned (.int .i64 1) ∧ Row w' g #[.int .i64 m, .int .i64 p0, .int .i64 p1, .bool o0, .bool o1, .bool sp, .int .u32 a, .int .u32 b, .slice (some ⟨bl, 0, none⟩) n cc, .int .i64 lost] ∧ Row w' bl C ∧ Aside2 g bl w w' := by
  have _u : True := by have _ := hne; have _ := hne'; trivial
  clear _u
  have hX : Aside2 g bl w w := .of_below (Below.refl _ _)
  have lr := hr.lt
  have ll := hl.lt
  have hlt1 : (n : Int) < (ls.length : Int) := by omega
  have hB_0 : Below w.heap.size w w := Below.refl _ _
  go_enter Try.func16, Try.ntmps16
  go_wp2
  go_ret
  exact ⟨rfl, ⟨by go_simp, by go_simp⟩, ⟨by go_simp, by go_simp⟩, by go_simp⟩
set_option maxRecDepth 100000 in
set_option maxHeartbeats 4000000 in
theorem load_bad (g bl : Nat) (m p0 p1 : Int) (o0 o1 sp : Bool) (a b : Int) (n cc : Nat) (C : Array Value) (lost : Int) (A : Option Addr) (c : Nat) (ls : List S54) (w : World) (hr : isRow w g) (hr' : rowAt w g = #[.int .i64 m, .int .i64 p0, .int .i64 p1, .bool o0, .bool o1, .bool sp, .int .u32 a, .int .u32 b, .slice (some ⟨bl, 0, none⟩) n cc, .int .i64 lost]) (hl : isRow w bl) (hl' : rowAt w bl = C) (hne : ¬ g = bl) (hne' : ¬ bl = g) (hlt : ¬ n < ls.length) (HC : Hid (Kd.C k54 w A ls.length ls)) (HRT : Hid (∀ W : World, Kd.C k54 W A ls.length ls → Calls Try.prog 38 #[.slice A ls.length c] W fun e w' => e = .returned (.int .i64 200) ∧ Below W.heap.size W w')) :
    Calls Try.prog 16 #[.pointer (some ⟨g, 0, none⟩), .slice A ls.length c] w fun e w' => e = .returned (.int .i64 200) ∧ Row w' g #[.int .i64 m, .int .i64 p0, .int .i64 p1, .bool o0, .bool o1, .bool sp, .int .u32 a, .int .u32 b, .slice (some ⟨bl, 0, none⟩) n cc, .int .i64 lost] ∧ Row w' bl C ∧ Aside2 g bl w w' := by
  have _u : True := by have _ := hne; have _ := hne'; trivial
  clear _u
  have hX : Aside2 g bl w w := .of_below (Below.refl _ _)
  have lr := hr.lt
  have ll := hl.lt
  have hlt1 : ¬ (n : Int) < (ls.length : Int) := by omega
  have hB_0 : Below w.heap.size w w := Below.refl _ _
  go_enter Try.func16, Try.ntmps16
  go_wp2_with fail
  refine (HRT.out _ HC.out).mono ?_
  rintro e v1 ⟨rfl, hb1⟩
  obtain ⟨V_1, V_1'⟩ : Row v1 g #[.int .i64 m, .int .i64 p0, .int .i64 p1, .bool o0, .bool o1, .bool sp, .int .u32 a, .int .u32 b, .slice (some ⟨bl, 0, none⟩) n cc, .int .i64 lost] := Row.step (by go_simp) (by go_simp) hb1
  obtain ⟨L_1, L_1'⟩ : Row v1 bl C := Row.step (by go_simp) (by go_simp) hb1
  have hB_1 : Aside2 g bl w v1 := Aside2.low (by go_simp) hb1
  clear hr hr' hl hl' hX hb1
  go_wp2
  go_ret
  exact ⟨rfl, ⟨by go_simp, by go_simp⟩, ⟨by go_simp, by go_simp⟩, by go_simp⟩
set_option maxRecDepth 100000 in
set_option maxHeartbeats 4000000 in
theorem load_ok (g bl : Nat) (m p0 p1 : Int) (o0 o1 sp : Bool) (a b : Int) (n cc : Nat) (C : Array Value) (lost : Int) (A : Option Addr) (c : Nat) (ls : List S54) (w : World) (hr : isRow w g) (hr' : rowAt w g = #[.int .i64 m, .int .i64 p0, .int .i64 p1, .bool o0, .bool o1, .bool sp, .int .u32 a, .int .u32 b, .slice (some ⟨bl, 0, none⟩) n cc, .int .i64 lost]) (hl : isRow w bl) (hl' : rowAt w bl = C) (hne : ¬ g = bl) (hne' : ¬ bl = g) (hlt : ¬ n < ls.length) (HC : Hid (Kd.C k54 w A ls.length ls)) (HRT : Hid (∀ W : World, Kd.C k54 W A ls.length ls → Calls Try.prog 38 #[.slice A ls.length c] W fun e w' => e = .returned (.int .i64 0) ∧ Below W.heap.size W w')) (hC7 : n * 7 ≤ C.size) (hn : 0 < n) (hA : ∀ ad, A = some ad → 0 < ls.length → ad.block < w.heap.size ∧ ad.block ≠ bl) :
    Calls Try.prog 16 #[.pointer (some ⟨g, 0, none⟩), .slice A ls.length c] w fun e w' => e = .returned (.int .i64 0) ∧ Row w' g #[.int .i64 m, .int .i64 p0, .int .i64 p1, .bool o0, .bool o1, .bool sp, .int .u32 a, .int .u32 b, .slice (some ⟨bl, 0, none⟩) n cc, .int .i64 lost] ∧ Row w' bl (spl (spl C 0 (FA (List.replicate n z54))) 0 (FA ls)) ∧ Aside2 g bl w w' := by
  have _u : True := by have _ := hne; have _ := hne'; trivial
  clear _u
  have hX : Aside2 g bl w w := .of_below (Below.refl _ _)
  have lr := hr.lt
  have ll := hl.lt
  have hlt1 : ¬ (n : Int) < (ls.length : Int) := by omega
  have hB_0 : Below w.heap.size w w := Below.refl _ _
  go_enter Try.func16, Try.ntmps16
  go_wp2_with fail
  refine (HRT.out _ HC.out).mono ?_
  rintro e v1 ⟨rfl, hb1⟩
  obtain ⟨V_1, V_1'⟩ : Row v1 g #[.int .i64 m, .int .i64 p0, .int .i64 p1, .bool o0, .bool o1, .bool sp, .int .u32 a, .int .u32 b, .slice (some ⟨bl, 0, none⟩) n cc, .int .i64 lost] := Row.step (by go_simp) (by go_simp) hb1
  obtain ⟨L_1, L_1'⟩ : Row v1 bl C := Row.step (by go_simp) (by go_simp) hb1
  have hB_1 : Aside2 g bl w v1 := Aside2.low (by go_simp) hb1
  have hC1 : Kd.C k54 (v1.setRow bl (spl C 0 (FA (List.replicate n z54)))) A ls.length ls := C_far (Kd.C_below HC.out hb1) (fun ad e h => setRow_other _ _ _ _ (hA ad e h).2)
  have hln : ls.length ≤ n := by omega
  have hC8 : n * 7 ≤ (spl C 0 (FA (List.replicate n z54))).size := by rw [spl_size (by rw [FA_size]; simp; omega)]; exact hC7
  clear hr hr' hl hl' hX hb1
  go_wp2
  go_ret
  exact ⟨rfl, ⟨by go_simp, by go_simp⟩, ⟨by go_simp, by go_simp⟩, by go_simp⟩
end Go.Proofs.Ytkbaghblchlcnaa.Lr.Wd
