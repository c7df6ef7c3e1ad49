/- Texts of this claim, put together: Vx, Vy, Vz, Wa, Wb, Wc, Wd, We, Wf, Wi, Lq, Bk, Bk2, Bk3, Bk4, Wp, Tk, Row, OpenRows, Ra. -/
import Derived.Test.YtkbaghblchlcnaaE19
import Derived.RegionIn
import Derived.Test.YtkbaghblchlcnaaE13
import Derived.Test.YtkbaghblchlcnaaE15
import Derived.Test.YtkbaghblchlcnaaE11
import Derived.OrdersHeld
import Derived.WalkKit
import Derived.ProofKit
import Derived.OpenShut
import Derived.ShutString
import Derived.ChangeOld
import Derived.Below
import Derived.SizedLaws
import Derived.Carry
import Derived.ChangeArms
import Derived.DataReads
namespace Go.Proofs.Ytkbaghblchlcnaa.Lr
open Go.RowKit Go.Shelf Go.Proofs.YtkbaghblchlcnaaW.PrintWords Go.Proofs.Ytkbaghblchlcnaa.IAll
def sblk : Value → Nat | .slice (some p) _ _ => p.block | _ => 0
theorem sblk_r {b i j : Nat} : sblk (.slice (some ⟨b, 0, none⟩) i j) = b := rfl
section
variable {w : World} {ρ : Operand → Value} {x0 x1 x y : Operand} {dst : Option Tmp} {t0 : TypeId} {pos : String} {af : Array Edge} {gd : Option (Nat × Bool)}
set_option maxRecDepth 100000 in
theorem foldV {m p0 p1 : Int} {o0 o1 sp : Bool} {f : Nat → Bool} : Array.foldl (fun (cs : Array Value) (x : Value × Nat) => cs.setIfInBounds x.snd x.fst) Try.zeroCells110 (RC m p0 p1 o0 o1 sp f).zipIdx 0 70 = RV (RC m p0 p1 o0 o1 sp f) (.slice none 0 0) (.int .i64 0) := by kernel_rfl
set_option maxRecDepth 100000 in
theorem buildV (bb : Nat) (m p0 p1 : Int) (o0 o1 sp : Bool) (f : Nat → Bool) (n : Nat) (h0 : ρ x0 = .agg (RC m p0 p1 o0 o1 sp f)) (h1 : ρ x1 = .slice (some ⟨bb, 0, none⟩) n n) :
    (execOp ρ { dst := dst, op := .build 110 #[(0, x0), (1, x1)], type := t0, pos := pos, after := af, guard := gd }).run Try.prog w = .ok (.value (.agg (RV (RC m p0 p1 o0 o1 sp f) (.slice (some ⟨bb, 0, none⟩) n n) (.int .i64 0)))) w := by
  go_simp
  simp only [RC_size]
  rw [if_neg (by decide), foldV]
  simp only [RV_set70 RC_size, RV_size RC_size]
  rw [if_neg (by decide)]
  rfl
end
attribute [local go_sem] Oper.semAt_some cell_row frozen_row isRow_setCell_eq rowAt_setCell_same rowAt_setCell_other isRow_alloc_eq rowAt_alloc rowAt_new rowAt_new' isRow_setRow_eq rowAt_setRow_same rowAt_setRow_other isRow_drew rowAt_drew size_setRow_ Lb_size Lb_at blk_ptr aggOf_agg below_alloc_e below_setCell_e below_setRow_e below_refl_e below_drew_r aside2_alloc_e aside2_setCell_e aside2_setRow_e aside2_drew_e aside2_refl_e aside2_drewN_e isRow_drewN rowAt_drewN below_drewN_e le_add_r offv_ptr one_lad zero_lad allOne_nil allOne_cons Value.oneCell' addr_at FA_size one_FA sblk_r
attribute [local go_sem ↓] storeI storeC storeE storeLm
attribute [local go_sem] eq2i eq2b eq2u
set_option maxRecDepth 100000 in
set_option maxHeartbeats 4000000 in
theorem made_c (n : Nat) (h1 : 1 ≤ n) (h2 : n ≤ 16) (c : Int) (hc : 1 + c % 16 = (n : Int)) (c0 : 0 ≤ c) (m p0 p1 : Int) (o0 o1 sp : Bool) (a b : Int) (ha : 0 ≤ a) (ha' : a ≤ 4294967295) (hb : 0 ≤ b) (hb' : b ≤ 4294967295) (w : World) :
    Calls Try.prog 31 #[.int .u8 c, .agg #[.int .i64 m, .int .i64 p0, .int .i64 p1, .bool o0, .bool o1, .bool sp, .int .u32 a, .int .u32 b]] w fun e w' => ∃ gv lv gr lr, e = .returned (.tuple #[.pointer (some ⟨gv, 0, none⟩), .pointer (some ⟨gr, 0, none⟩)]) ∧ Row w' gv (vrow n lv ⟨m, p0, p1, o0, o1, sp, a, b, List.replicate n z54, 0⟩) ∧ Row w' lv (FA (List.replicate n z54)) ∧ Row w' gr (rrow n lr ⟨m, p0, p1, o0, o1, sp, a, b, List.replicate n z54, 0⟩) ∧ Row w' lr (FA (List.replicate n z54)) ∧ ¬ gv = lv ∧ ¬ gv = gr ∧ ¬ gv = lr ∧ ¬ lv = gr ∧ ¬ lv = lr ∧ ¬ gr = lr ∧ w.heap.size ≤ gv ∧ w.heap.size ≤ lv ∧ w.heap.size ≤ gr ∧ w.heap.size ≤ lr ∧ Below w.heap.size w w' := by
  have hm := fun w => mkL n h1 h2 w
  have ht : c.tmod 16 = (n : Int) - 1 := by rw [Int.tmod_eq_emod_of_nonneg c0]; omega
  have hw1 : IntKind.u8.wrap ((n : Int) - 1) = (n : Int) - 1 := by
    have : ∀ x, IntKind.u8.wrap x = x % 256 := fun x => by simp [IntKind.wrap, IntKind.bits, IntKind.signed]
    rw [this]; omega
  have hw2 : IntKind.i64.wrap ((n : Int) - 1) = (n : Int) - 1 := by rw [wrap_i64_eq]; omega
  have hw3 : IntKind.i64.wrap (1 + ((n : Int) - 1)) = (n : Int) := by rw [wrap_i64_eq]; omega
  have hB_0 : Below w.heap.size w w := Below.refl _ _
  go_enter Try.func31, Try.ntmps31
  go_wp2_with fail
  refine (VNew_c n h1 h2 _).mono ?_
  rintro e v0 ⟨rfl, V1, L1, hb0⟩
  simp only [World.size_alloc] at V1 L1
  obtain ⟨F_0, F_0'⟩ : Row v0 w.heap.size #[.int .i64 m, .int .i64 p0, .int .i64 p1, .bool o0, .bool o1, .bool sp, .int .u32 a, .int .u32 b] := Row.step (by go_simp) (by go_simp) hb0
  have hB_9 : Below w.heap.size w v0 := bk (by go_simp) (by first | (go_simp; done) | (go_simp; omega)) hb0
  obtain ⟨V_0, V_0'⟩ : Row v0 (w.heap.size + 1 + 1) #[.int .i64 0, .int .i64 0, .int .i64 0, .bool false, .bool false, .bool false, .int .u32 0, .int .u32 0, .slice (some ⟨w.heap.size + 1, 0, none⟩) n n, .int .i64 0] := V1
  obtain ⟨L_0, L_0'⟩ : Row v0 (w.heap.size + 1) (FA (List.replicate n z54)) := L1
  clear hb0 hB_0
  have hB_0 := hB_9
  clear hB_9
  have n1 : ¬ w.heap.size = w.heap.size + 1 + 1 := by omega
  have n2 : ¬ w.heap.size + 1 + 1 = w.heap.size := by omega
  have n3 : ¬ w.heap.size + 1 = w.heap.size + 1 + 1 := by omega
  have n4 : ¬ w.heap.size + 1 + 1 = w.heap.size + 1 := by omega
  go_wp2_with fail
  refine wp_named (fun W_ => (isRow W_ w.heap.size ∧ rowAt W_ w.heap.size = #[.int .i64 m, .int .i64 p0, .int .i64 p1, .bool o0, .bool o1, .bool sp, .int .u32 a, .int .u32 b]) ∧ (isRow W_ (w.heap.size + 1 + 1) ∧ rowAt W_ (w.heap.size + 1 + 1) = #[.int .i64 m, .int .i64 p0, .int .i64 p1, .bool o0, .bool o1, .bool sp, .int .u32 a, .int .u32 b, .slice (some ⟨w.heap.size + 1, 0, none⟩) n n, .int .i64 0]) ∧ (isRow W_ (w.heap.size + 1) ∧ rowAt W_ (w.heap.size + 1) = (FA (List.replicate n z54))) ∧ Below w.heap.size w W_) (by refine ⟨⟨by go_simp, by go_simp⟩, ⟨by go_simp, by go_simp⟩, ⟨by go_simp, by go_simp⟩, by go_simp⟩) ?_
  rintro v1 ⟨⟨F_1, F_1'⟩, ⟨V_1, V_1'⟩, ⟨L_1, L_1'⟩, hB_1⟩
  clear F_0 F_0' V_0 V_0' L_0 L_0' hB_0
  have hz_1 : w.heap.size ≤ v1.heap.size := hB_1.size
  have hl_F_1 := isRow.lt F_1
  have ne_F_1_0 : ¬ w.heap.size = v1.heap.size := by omega
  have en_F_1_0 : ¬ v1.heap.size = w.heap.size := by omega
  have ne_F_1_1 : ¬ w.heap.size = v1.heap.size + 1 := by omega
  have en_F_1_1 : ¬ v1.heap.size + 1 = w.heap.size := by omega
  have ne_F_1_2 : ¬ w.heap.size = v1.heap.size + 2 := by omega
  have en_F_1_2 : ¬ v1.heap.size + 2 = w.heap.size := by omega
  have ne_F_1_3 : ¬ w.heap.size = v1.heap.size + 3 := by omega
  have en_F_1_3 : ¬ v1.heap.size + 3 = w.heap.size := by omega
  have hl_V_1 := isRow.lt V_1
  have ne_V_1_0 : ¬ w.heap.size + 1 + 1 = v1.heap.size := by omega
  have en_V_1_0 : ¬ v1.heap.size = w.heap.size + 1 + 1 := by omega
  have ne_V_1_1 : ¬ w.heap.size + 1 + 1 = v1.heap.size + 1 := by omega
  have en_V_1_1 : ¬ v1.heap.size + 1 = w.heap.size + 1 + 1 := by omega
  have ne_V_1_2 : ¬ w.heap.size + 1 + 1 = v1.heap.size + 2 := by omega
  have en_V_1_2 : ¬ v1.heap.size + 2 = w.heap.size + 1 + 1 := by omega
  have ne_V_1_3 : ¬ w.heap.size + 1 + 1 = v1.heap.size + 3 := by omega
  have en_V_1_3 : ¬ v1.heap.size + 3 = w.heap.size + 1 + 1 := by omega
  have hl_L_1 := isRow.lt L_1
  have ne_L_1_0 : ¬ w.heap.size + 1 = v1.heap.size := by omega
  have en_L_1_0 : ¬ v1.heap.size = w.heap.size + 1 := by omega
  have ne_L_1_1 : ¬ w.heap.size + 1 = v1.heap.size + 1 := by omega
  have en_L_1_1 : ¬ v1.heap.size + 1 = w.heap.size + 1 := by omega
  have ne_L_1_2 : ¬ w.heap.size + 1 = v1.heap.size + 2 := by omega
  have en_L_1_2 : ¬ v1.heap.size + 2 = w.heap.size + 1 := by omega
  have ne_L_1_3 : ¬ w.heap.size + 1 = v1.heap.size + 3 := by omega
  have en_L_1_3 : ¬ v1.heap.size + 3 = w.heap.size + 1 := by omega
  refine wp_region_held_drew (S := fun w' => isRow w' w.heap.size ∧ rowAt w' w.heap.size = #[.int .i64 m, .int .i64 p0, .int .i64 p1, .bool o0, .bool o1, .bool sp, .int .u32 a, .int .u32 b] ∧ isRow w' (w.heap.size + 1 + 1) ∧ rowAt w' (w.heap.size + 1 + 1) = #[.int .i64 m, .int .i64 p0, .int .i64 p1, .bool o0, .bool o1, .bool sp, .int .u32 a, .int .u32 b, .slice (some ⟨w.heap.size + 1, 0, none⟩) n n, .int .i64 0] ∧ isRow w' (w.heap.size + 1) ∧ rowAt w' (w.heap.size + 1) = (FA (List.replicate n z54)) ∧ Below w.heap.size w w') (by kernel_rfl) ⟨by go_simp, by go_simp, by go_simp, by go_simp, by go_simp, by go_simp, by go_simp⟩ (fun hHeld => ?_)
  refine wpAnyH_take (i := 0) (oi := { dst := some 24, op := Op.move (Operand.tmp 7), type := 24, pos := "law.go:82", after := #[], guard := none }) (v := ?_) rfl (by kernel_rfl) (by kernel_rfl) (by kernel_rfl) (fun _ _ _ h => h) (Or.inl ⟨by rfl, ?_⟩) (by assumption) ?_
  rotate_left
  · (intro w_ hS_; (try dsimp only at hS_); (try go_split_ands); go_simp; try with_reducible rfl)
  try simp only [Act.put, List.setIfInBounds_toArray, List.set_cons_zero, List.set_cons_succ]
  refine wpAnyH_take (i := 1) (oi := { dst := some 25, op := Op.load 35 (Operand.tmp 3), type := 35, pos := "law.go:82", after := #[], guard := none }) (v := ?_) rfl (by kernel_rfl) (by kernel_rfl) (by kernel_rfl) (fun _ _ _ h => h) (Or.inl ⟨by rfl, ?_⟩) (by assumption) ?_
  rotate_left
  · (intro w_ hS_; (try dsimp only at hS_); (try go_split_ands); go_simp; try with_reducible rfl)
  try simp only [Act.put, List.setIfInBounds_toArray, List.set_cons_zero, List.set_cons_succ]
  refine wpAnyH_take (i := 3) (oi := { dst := some 27, op := Op.move (Operand.tmp 6), type := 3, pos := "law.go:82", after := #[], guard := none }) (v := ?_) rfl (by kernel_rfl) (by kernel_rfl) (by kernel_rfl) (fun _ _ _ h => h) (Or.inl ⟨by rfl, ?_⟩) (by assumption) ?_
  rotate_left
  · (intro w_ hS_; (try dsimp only at hS_); (try go_split_ands); go_simp; try with_reducible rfl)
  try simp only [Act.put, List.setIfInBounds_toArray, List.set_cons_zero, List.set_cons_succ]
  refine wpAnyH_ready (rs := [2, 4]) (by kernel_rfl) (by simp) ?_
  refine AllReadyH.cons (o := { dst := some 26, op := Op.call { callee := Callee.value (Operand.func 56), args := #[Operand.tmp 25], argTypes := #[35] }, type := 107, pos := "law.go:82", after := #[{ on := 1, ground := Ground.data }], guard := none }) rfl (fun K hK => ?_) (AllReadyH.cons (o := { dst := some 28, op := Op.makeSlice 22 (Operand.tmp 27) (Operand.tmp 27), type := 22, pos := "law.go:82", after := #[{ on := 3, ground := Ground.data }, { on := 3, ground := Ground.data }], guard := none }) rfl (fun K hK => ?_) AllReadyH.nil)
  · skip
    (have hq_ := hHeld; (try dsimp only at hq_))
    obtain ⟨PF_1q, PF_1q', PV_1q, PV_1q', PL_1q, PL_1q', hF_1q⟩ := hq_
    go_simp
    refine (Told_c m p0 p1 o0 o1 sp a b ha ha' hb hb' _).mono ?_
    rintro e u1 ⟨rfl, hb⟩
    refine hK.out _ _ ?_ (fun hHeld => ?_)
    · exact ⟨rk1 PF_1q hb, rk2 PF_1q PF_1q' hb, rk1 PV_1q hb, rk2 PV_1q PV_1q' hb, rk1 PL_1q hb, rk2 PL_1q PL_1q' hb, bk hF_1q hF_1q.size hb⟩
    clear hK K
    try simp only [Act.put, List.setIfInBounds_toArray, List.set_cons_zero, List.set_cons_succ]
    refine wpAnyH_take (i := 7) (oi := { dst := some 4, op := Op.assign (Operand.tmp 24), type := 24, pos := "law.go:82", after := #[{ on := 0, ground := Ground.data }, { on := 2, ground := Ground.chain }, { on := 0, ground := Ground.phase }, { on := 1, ground := Ground.textOnly Departure.lateStores }, { on := 2, ground := Ground.textOnly Departure.lateStoresUnsure }, { on := 3, ground := Ground.textOnly Departure.lateStores }, { on := 4, ground := Ground.textOnly Departure.lateStoresUnsure }, { on := 5, ground := Ground.textOnly Departure.lateStores }, { on := 6, ground := Ground.textOnly Departure.lateStores }], guard := none }) (v := ?_) rfl (by kernel_rfl) (by kernel_rfl) (by kernel_rfl) (fun _ _ _ h => h) (Or.inl ⟨by rfl, ?_⟩) (by assumption) ?_
    rotate_left
    · (intro w_ hS_; (try dsimp only at hS_); (try go_split_ands); go_simp; try with_reducible rfl)
    try simp only [Act.put, List.setIfInBounds_toArray, List.set_cons_zero, List.set_cons_succ]
    refine wpAnyH_ready (rs := [4]) (by kernel_rfl) (by simp) ?_
    refine AllReadyH.cons (o := { dst := some 28, op := Op.makeSlice 22 (Operand.tmp 27) (Operand.tmp 27), type := 22, pos := "law.go:82", after := #[{ on := 3, ground := Ground.data }, { on := 3, ground := Ground.data }], guard := none }) rfl (fun K hK => ?_) AllReadyH.nil
    · skip
      (have hq_ := hHeld; (try dsimp only at hq_))
      obtain ⟨PF_2q, PF_2q', PV_2q, PV_2q', PL_2q, PL_2q', hF_2q⟩ := hq_
      go_simp
      have nb_F_2 : ¬ w.heap.size = u1.heap.size := by have := isRow.lt PF_2q; (try simp only [size_drew_] at this); (try simp only [World.size_alloc] at this); omega
      have bn_F_2 : ¬ u1.heap.size = w.heap.size := by omega
      have nb_V_2 : ¬ w.heap.size + 1 + 1 = u1.heap.size := by have := isRow.lt PV_2q; (try simp only [size_drew_] at this); (try simp only [World.size_alloc] at this); omega
      have bn_V_2 : ¬ u1.heap.size = w.heap.size + 1 + 1 := by omega
      have nb_L_2 : ¬ w.heap.size + 1 = u1.heap.size := by have := isRow.lt PL_2q; (try simp only [size_drew_] at this); (try simp only [World.size_alloc] at this); omega
      have bn_L_2 : ¬ u1.heap.size = w.heap.size + 1 := by omega
      have hz_2 : w.heap.size ≤ u1.heap.size := by have := hF_2q.size; (try simp only [size_drew_] at this); (try simp only [World.size_alloc] at this); omega
      obtain ⟨NM_2, NM_2'⟩ : Row (u1.alloc (.cells (FA (List.replicate n z54)) 54)) u1.heap.size (FA (List.replicate n z54)) := by first | exact Row.new _ _ _ | exact ⟨by go_simp, by go_simp⟩
      refine hK.out _ _ ?_ (fun hHeld => ?_)
      · exact ⟨isRow_alloc PF_2q, (rowAt_alloc PF_2q).trans PF_2q', isRow_alloc PV_2q, (rowAt_alloc PV_2q).trans PV_2q', isRow_alloc PL_2q, (rowAt_alloc PL_2q).trans PL_2q', hF_2q.alloc hF_2q.size _⟩
      clear hK K
      try simp only [Act.put, List.setIfInBounds_toArray, List.set_cons_zero, List.set_cons_succ]
      refine wpAnyH_take (i := 5) (oi := { dst := some 29, op := Op.build 110 #[(0, Operand.tmp 26), (1, Operand.tmp 28)], type := 110, pos := "law.go:82", after := #[{ on := 2, ground := Ground.data }, { on := 4, ground := Ground.data }, { on := 7, ground := Ground.gcOnly Departure.lateStores }], guard := none }) (v := ?_) rfl (by kernel_rfl) (by kernel_rfl) (by kernel_rfl) (fun _ _ _ h => h) (Or.inl ⟨by rfl, ?_⟩) (by assumption) ?_
      rotate_left
      · (intro w_ hS_; refine buildV u1.heap.size m p0 p1 o0 o1 sp (rb a b) n ?_ ?_ <;> go_simp)
      try simp only [Act.put, List.setIfInBounds_toArray, List.set_cons_zero, List.set_cons_succ]
      refine wpAnyH_ready (rs := [6]) (by kernel_rfl) (by simp) ?_
      refine AllReadyH.cons (o := { dst := some 30, op := Op.box 110 (Operand.tmp 29), type := 75, pos := "law.go:82", after := #[{ on := 5, ground := Ground.data }, { on := 7, ground := Ground.gcOnly Departure.lateStores }], guard := none }) rfl (fun K hK => ?_) AllReadyH.nil
      · skip
        (have hq_ := hHeld; (try dsimp only at hq_))
        obtain ⟨PF_3q, PF_3q', PV_3q, PV_3q', PL_3q, PL_3q', hF_3q⟩ := hq_
        go_simp
        have nb_F_3 : ¬ w.heap.size = (u1.heap.size + 1) := by have := isRow.lt PF_3q; (try simp only [size_drew_] at this); (try simp only [World.size_alloc] at this); omega
        have bn_F_3 : ¬ (u1.heap.size + 1) = w.heap.size := by omega
        have nb_V_3 : ¬ w.heap.size + 1 + 1 = (u1.heap.size + 1) := by have := isRow.lt PV_3q; (try simp only [size_drew_] at this); (try simp only [World.size_alloc] at this); omega
        have bn_V_3 : ¬ (u1.heap.size + 1) = w.heap.size + 1 + 1 := by omega
        have nb_L_3 : ¬ w.heap.size + 1 = (u1.heap.size + 1) := by have := isRow.lt PL_3q; (try simp only [size_drew_] at this); (try simp only [World.size_alloc] at this); omega
        have bn_L_3 : ¬ (u1.heap.size + 1) = w.heap.size + 1 := by omega
        have nB_M_3 : ¬ u1.heap.size = (u1.heap.size + 1) := by have := isRow.lt NM_2; (try simp only [size_drew_] at this); (try simp only [World.size_alloc] at this); omega
        have Bn_M_3 : ¬ (u1.heap.size + 1) = u1.heap.size := by omega
        obtain ⟨NM_3, NM_3'⟩ : Row ((u1.alloc (.cells (FA (List.replicate n z54)) 54)).alloc (.cells (RV (RC m p0 p1 o0 o1 sp (rb a b)) (.slice (some ⟨u1.heap.size, 0, none⟩) n n) (.int .i64 0)) 110)) u1.heap.size _ := ⟨isRow_alloc NM_2, (rowAt_alloc NM_2).trans NM_2'⟩
        have hz_3 : w.heap.size ≤ (u1.heap.size + 1) := by have := hF_3q.size; (try simp only [size_drew_] at this); (try simp only [World.size_alloc] at this); omega
        obtain ⟨NX_3, NX_3'⟩ : Row ((u1.alloc (.cells (FA (List.replicate n z54)) 54)).alloc (.cells (RV (RC m p0 p1 o0 o1 sp (rb a b)) (.slice (some ⟨u1.heap.size, 0, none⟩) n n) (.int .i64 0)) 110)) (u1.heap.size + 1) (RV (RC m p0 p1 o0 o1 sp (rb a b)) (.slice (some ⟨u1.heap.size, 0, none⟩) n n) (.int .i64 0)) := by first | exact Row.new _ _ _ | exact ⟨by go_simp, by go_simp⟩
        refine hK.out _ _ ?_ (fun hHeld => ?_)
        · exact ⟨isRow_alloc PF_3q, (rowAt_alloc PF_3q).trans PF_3q', isRow_alloc PV_3q, (rowAt_alloc PV_3q).trans PV_3q', isRow_alloc PL_3q, (rowAt_alloc PL_3q).trans PL_3q', hF_3q.alloc hF_3q.size _⟩
        clear hK K
        try simp only [Act.put, List.setIfInBounds_toArray, List.set_cons_zero, List.set_cons_succ]
        refine wpAnyH_take (i := 8) (oi := { dst := some 5, op := Op.assign (Operand.tmp 30), type := 75, pos := "law.go:82", after := #[{ on := 6, ground := Ground.data }, { on := 7, ground := Ground.chain }, { on := 0, ground := Ground.phase }, { on := 1, ground := Ground.phase }, { on := 2, ground := Ground.phase }, { on := 3, ground := Ground.phase }, { on := 4, ground := Ground.phase }, { on := 5, ground := Ground.phase }, { on := 6, ground := Ground.phase }, { on := 7, ground := Ground.phase }], guard := none }) (v := ?_) rfl (by kernel_rfl) (by kernel_rfl) (by kernel_rfl) (fun _ _ _ h => h) (Or.inl ⟨by rfl, ?_⟩) (by assumption) ?_
        rotate_left
        · (intro w_ hS_; (try dsimp only at hS_); (try go_split_ands); go_simp; try with_reducible rfl)
        try simp only [Act.put, List.setIfInBounds_toArray, List.set_cons_zero, List.set_cons_succ]
        refine wpAnyH_done (by kernel_rfl) ?_ _
        (have hq_ := hHeld; (try dsimp only at hq_))
        obtain ⟨PF_4e, PF_4e', PV_4e, PV_4e', PL_4e, PL_4e', hF_4e⟩ := hq_
        have hF := hF_4e
        go_wp2
        go_ret2
        have q1 := isRow.lt NM_3
        have q2 := isRow.lt NX_3
        clear hHeld
        refine ⟨w.heap.size + 1 + 1, w.heap.size + 1, (u1.heap.size + 1), u1.heap.size, by go_simp, ⟨PV_4e, PV_4e'⟩, ⟨PL_4e, PL_4e'⟩, ⟨NX_3, NX_3'⟩, ⟨NM_3, NM_3'⟩, by omega, by omega, by omega, by omega, by omega, by omega, by omega, by omega, by omega, by omega, hF⟩
  · skip
    (have hq_ := hHeld; (try dsimp only at hq_))
    obtain ⟨PF_5q, PF_5q', PV_5q, PV_5q', PL_5q, PL_5q', hF_5q⟩ := hq_
    go_simp
    have nb_F_5 : ¬ w.heap.size = v1.heap.size := by have := isRow.lt PF_5q; (try simp only [size_drew_] at this); (try simp only [World.size_alloc] at this); omega
    have bn_F_5 : ¬ v1.heap.size = w.heap.size := by omega
    have nb_V_5 : ¬ w.heap.size + 1 + 1 = v1.heap.size := by have := isRow.lt PV_5q; (try simp only [size_drew_] at this); (try simp only [World.size_alloc] at this); omega
    have bn_V_5 : ¬ v1.heap.size = w.heap.size + 1 + 1 := by omega
    have nb_L_5 : ¬ w.heap.size + 1 = v1.heap.size := by have := isRow.lt PL_5q; (try simp only [size_drew_] at this); (try simp only [World.size_alloc] at this); omega
    have bn_L_5 : ¬ v1.heap.size = w.heap.size + 1 := by omega
    have hz_5 : w.heap.size ≤ v1.heap.size := by have := hF_5q.size; (try simp only [size_drew_] at this); (try simp only [World.size_alloc] at this); omega
    obtain ⟨NM_5, NM_5'⟩ : Row (v1.drew.alloc (.cells (FA (List.replicate n z54)) 54)) v1.heap.size (FA (List.replicate n z54)) := by first | exact Row.new _ _ _ | exact ⟨by go_simp, by go_simp⟩
    refine hK.out _ _ ?_ (fun hHeld => ?_)
    · exact ⟨isRow_alloc PF_5q, (rowAt_alloc PF_5q).trans PF_5q', isRow_alloc PV_5q, (rowAt_alloc PV_5q).trans PV_5q', isRow_alloc PL_5q, (rowAt_alloc PL_5q).trans PL_5q', hF_5q.alloc hF_5q.size _⟩
    clear hK K
    try simp only [Act.put, List.setIfInBounds_toArray, List.set_cons_zero, List.set_cons_succ]
    refine wpAnyH_ready (rs := [2]) (by kernel_rfl) (by simp) ?_
    refine AllReadyH.cons (o := { dst := some 26, op := Op.call { callee := Callee.value (Operand.func 56), args := #[Operand.tmp 25], argTypes := #[35] }, type := 107, pos := "law.go:82", after := #[{ on := 1, ground := Ground.data }], guard := none }) rfl (fun K hK => ?_) AllReadyH.nil
    · skip
      (have hq_ := hHeld; (try dsimp only at hq_))
      obtain ⟨PF_6q, PF_6q', PV_6q, PV_6q', PL_6q, PL_6q', hF_6q⟩ := hq_
      go_simp
      refine (Told_c m p0 p1 o0 o1 sp a b ha ha' hb hb' _).mono ?_
      rintro e u6 ⟨rfl, hb⟩
      obtain ⟨NM_6, NM_6'⟩ := Row.step NM_5 NM_5' hb
      refine hK.out _ _ ?_ (fun hHeld => ?_)
      · exact ⟨rk1 PF_6q hb, rk2 PF_6q PF_6q' hb, rk1 PV_6q hb, rk2 PV_6q PV_6q' hb, rk1 PL_6q hb, rk2 PL_6q PL_6q' hb, bk hF_6q hF_6q.size hb⟩
      clear hK K
      try simp only [Act.put, List.setIfInBounds_toArray, List.set_cons_zero, List.set_cons_succ]
      refine wpAnyH_take (i := 5) (oi := { dst := some 29, op := Op.build 110 #[(0, Operand.tmp 26), (1, Operand.tmp 28)], type := 110, pos := "law.go:82", after := #[{ on := 2, ground := Ground.data }, { on := 4, ground := Ground.data }, { on := 7, ground := Ground.gcOnly Departure.lateStores }], guard := none }) (v := ?_) rfl (by kernel_rfl) (by kernel_rfl) (by kernel_rfl) (fun _ _ _ h => h) (Or.inl ⟨by rfl, ?_⟩) (by assumption) ?_
      rotate_left
      · (intro w_ hS_; refine buildV v1.heap.size m p0 p1 o0 o1 sp (rb a b) n ?_ ?_ <;> go_simp)
      try simp only [Act.put, List.setIfInBounds_toArray, List.set_cons_zero, List.set_cons_succ]
      refine wpAnyH_take (i := 7) (oi := { dst := some 4, op := Op.assign (Operand.tmp 24), type := 24, pos := "law.go:82", after := #[{ on := 0, ground := Ground.data }, { on := 2, ground := Ground.chain }, { on := 0, ground := Ground.phase }, { on := 1, ground := Ground.textOnly Departure.lateStores }, { on := 2, ground := Ground.textOnly Departure.lateStoresUnsure }, { on := 3, ground := Ground.textOnly Departure.lateStores }, { on := 4, ground := Ground.textOnly Departure.lateStoresUnsure }, { on := 5, ground := Ground.textOnly Departure.lateStores }, { on := 6, ground := Ground.textOnly Departure.lateStores }], guard := none }) (v := ?_) rfl (by kernel_rfl) (by kernel_rfl) (by kernel_rfl) (fun _ _ _ h => h) (Or.inl ⟨by rfl, ?_⟩) (by assumption) ?_
      rotate_left
      · (intro w_ hS_; (try dsimp only at hS_); (try go_split_ands); go_simp; try with_reducible rfl)
      try simp only [Act.put, List.setIfInBounds_toArray, List.set_cons_zero, List.set_cons_succ]
      refine wpAnyH_ready (rs := [6]) (by kernel_rfl) (by simp) ?_
      refine AllReadyH.cons (o := { dst := some 30, op := Op.box 110 (Operand.tmp 29), type := 75, pos := "law.go:82", after := #[{ on := 5, ground := Ground.data }, { on := 7, ground := Ground.gcOnly Departure.lateStores }], guard := none }) rfl (fun K hK => ?_) AllReadyH.nil
      · skip
        (have hq_ := hHeld; (try dsimp only at hq_))
        obtain ⟨PF_7q, PF_7q', PV_7q, PV_7q', PL_7q, PL_7q', hF_7q⟩ := hq_
        go_simp
        have nb_F_7 : ¬ w.heap.size = u6.heap.size := by have := isRow.lt PF_7q; (try simp only [size_drew_] at this); (try simp only [World.size_alloc] at this); omega
        have bn_F_7 : ¬ u6.heap.size = w.heap.size := by omega
        have nb_V_7 : ¬ w.heap.size + 1 + 1 = u6.heap.size := by have := isRow.lt PV_7q; (try simp only [size_drew_] at this); (try simp only [World.size_alloc] at this); omega
        have bn_V_7 : ¬ u6.heap.size = w.heap.size + 1 + 1 := by omega
        have nb_L_7 : ¬ w.heap.size + 1 = u6.heap.size := by have := isRow.lt PL_7q; (try simp only [size_drew_] at this); (try simp only [World.size_alloc] at this); omega
        have bn_L_7 : ¬ u6.heap.size = w.heap.size + 1 := by omega
        have nB_M_7 : ¬ v1.heap.size = u6.heap.size := by have := isRow.lt NM_6; (try simp only [size_drew_] at this); (try simp only [World.size_alloc] at this); omega
        have Bn_M_7 : ¬ u6.heap.size = v1.heap.size := by omega
        obtain ⟨NM_7, NM_7'⟩ : Row (u6.alloc (.cells (RV (RC m p0 p1 o0 o1 sp (rb a b)) (.slice (some ⟨v1.heap.size, 0, none⟩) n n) (.int .i64 0)) 110)) v1.heap.size _ := ⟨isRow_alloc NM_6, (rowAt_alloc NM_6).trans NM_6'⟩
        have hz_7 : w.heap.size ≤ u6.heap.size := by have := hF_7q.size; (try simp only [size_drew_] at this); (try simp only [World.size_alloc] at this); omega
        obtain ⟨NX_7, NX_7'⟩ : Row (u6.alloc (.cells (RV (RC m p0 p1 o0 o1 sp (rb a b)) (.slice (some ⟨v1.heap.size, 0, none⟩) n n) (.int .i64 0)) 110)) u6.heap.size (RV (RC m p0 p1 o0 o1 sp (rb a b)) (.slice (some ⟨v1.heap.size, 0, none⟩) n n) (.int .i64 0)) := by first | exact Row.new _ _ _ | exact ⟨by go_simp, by go_simp⟩
        refine hK.out _ _ ?_ (fun hHeld => ?_)
        · exact ⟨isRow_alloc PF_7q, (rowAt_alloc PF_7q).trans PF_7q', isRow_alloc PV_7q, (rowAt_alloc PV_7q).trans PV_7q', isRow_alloc PL_7q, (rowAt_alloc PL_7q).trans PL_7q', hF_7q.alloc hF_7q.size _⟩
        clear hK K
        try simp only [Act.put, List.setIfInBounds_toArray, List.set_cons_zero, List.set_cons_succ]
        refine wpAnyH_take (i := 8) (oi := { dst := some 5, op := Op.assign (Operand.tmp 30), type := 75, pos := "law.go:82", after := #[{ on := 6, ground := Ground.data }, { on := 7, ground := Ground.chain }, { on := 0, ground := Ground.phase }, { on := 1, ground := Ground.phase }, { on := 2, ground := Ground.phase }, { on := 3, ground := Ground.phase }, { on := 4, ground := Ground.phase }, { on := 5, ground := Ground.phase }, { on := 6, ground := Ground.phase }, { on := 7, ground := Ground.phase }], guard := none }) (v := ?_) rfl (by kernel_rfl) (by kernel_rfl) (by kernel_rfl) (fun _ _ _ h => h) (Or.inl ⟨by rfl, ?_⟩) (by assumption) ?_
        rotate_left
        · (intro w_ hS_; (try dsimp only at hS_); (try go_split_ands); go_simp; try with_reducible rfl)
        try simp only [Act.put, List.setIfInBounds_toArray, List.set_cons_zero, List.set_cons_succ]
        refine wpAnyH_done (by kernel_rfl) ?_ _
        (have hq_ := hHeld; (try dsimp only at hq_))
        obtain ⟨PF_8e, PF_8e', PV_8e, PV_8e', PL_8e, PL_8e', hF_8e⟩ := hq_
        have hF := hF_8e
        go_wp2
        go_ret2
        have q1 := isRow.lt NM_7
        have q2 := isRow.lt NX_7
        clear hHeld
        refine ⟨w.heap.size + 1 + 1, w.heap.size + 1, u6.heap.size, v1.heap.size, by go_simp, ⟨PV_8e, PV_8e'⟩, ⟨PL_8e, PL_8e'⟩, ⟨NX_7, NX_7'⟩, ⟨NM_7, NM_7'⟩, by omega, by omega, by omega, by omega, by omega, by omega, by omega, by omega, by omega, by omega, hF⟩
end Go.Proofs.Ytkbaghblchlcnaa.Lr
namespace Go.Proofs.Ytkbaghblchlcnaa.Lr
open Go.RowKit Go.Shelf Go.Proofs.YtkbaghblchlcnaaW.PrintWords Go.Proofs.Ytkbaghblchlcnaa.IAll
structure VA where
  f0 : Int
  f1 : List S54
  f2 : Int
  f3 : Bool
  f4 : Int
def zVA : VA := ⟨0, [], 0, false, 0⟩
def kVA : Kd VA := Kd.iso (Kd.pair (Kd.int .i64) (Kd.pair (Kd.slice 54 k54) (Kd.pair (Kd.int .i64) (Kd.pair (Kd.bool) (Kd.int .u64))))) (fun x : VA => (x.f0, x.f1, x.f2, x.f3, x.f4))
theorem kVA_open {w : World} {x : VA} {cs : List Value} (h : kVA.K w x cs) : ∃ A c, cs = [.int .i64 x.f0, .slice A x.f1.length c, .int .i64 x.f2, .bool x.f3, .int .u64 x.f4] ∧ x.f1.length ≤ c ∧ Kd.C k54 w A x.f1.length x.f1 := by
  obtain ⟨_, _, rfl, rfl, ⟨_, _, rfl, ⟨A, c, rfl, hl, hC⟩, ⟨_, _, rfl, rfl, ⟨_, _, rfl, rfl, rfl⟩⟩⟩⟩ := h
  exact ⟨A, c, rfl, hl, hC⟩
def rdA (xs : List VA) (i : Int) : VA := xs.getD i.toNat zVA
theorem at_A {w : World} {B : Option Addr} {n : Nat} {xs : List VA} (h : Kd.C kVA w B n xs) (i : Int) (h0 : 0 ≤ i) (h1 : i < n) : ∃ ad A c, B = some ad ∧ w.cell? (ad.add (i.toNat * 5)) = some (.int .i64 (rdA xs i).f0) ∧ w.cell? ⟨(ad.add (i.toNat * 5)).block, (ad.add (i.toNat * 5)).off + 1, none⟩ = some (.slice A (rdA xs i).f1.length c) ∧ w.cell? ⟨(ad.add (i.toNat * 5)).block, (ad.add (i.toNat * 5)).off + 2, none⟩ = some (.int .i64 (rdA xs i).f2) ∧ w.cell? ⟨(ad.add (i.toNat * 5)).block, (ad.add (i.toNat * 5)).off + 3, none⟩ = some (.bool (rdA xs i).f3) ∧ w.cell? ⟨(ad.add (i.toNat * 5)).block, (ad.add (i.toNat * 5)).off + 4, none⟩ = some (.int .u64 (rdA xs i).f4) ∧ (rdA xs i).f1.length ≤ c ∧ Kd.C k54 w A (rdA xs i).f1.length (rdA xs i).f1 := by
  obtain ⟨ad, cs, e, _, hK, hc0⟩ := Kd.C_get h zVA i h0 h1
  have hc : ∀ j u, cs[j]? = some u → w.cell? (ad.add (i.toNat * 5 + j)) = some u := hc0
  obtain ⟨A, c, rfl, hl, hC⟩ := kVA_open hK
  exact ⟨ad, A, c, e, hc 0 _ rfl, by rw [← add_field _ _ 1 (by omega)]; exact hc 1 _ rfl, by rw [← add_field _ _ 2 (by omega)]; exact hc 2 _ rfl, by rw [← add_field _ _ 3 (by omega)]; exact hc 3 _ rfl, by rw [← add_field _ _ 4 (by omega)]; exact hc 4 _ rfl, hl, hC⟩
theorem rdA_mem (l : List VA) (k : Nat) (hk : k < l.length) : rdA l (k : Int) ∈ l := by
  unfold rdA
  rw [Int.toNat_natCast, List.getD_eq_getElem?_getD, List.getElem?_eq_getElem hk]
  exact List.getElem_mem hk
/-- what the acts make of a state -/
noncomputable def runA (n : Nat) (s : VS) (xs : List VA) (k : Nat) : VS := (xs.take k).foldl (fun s x => actS n s x.f0 x.f1 x.f2 x.f3 x.f4) s
theorem runA_zero (n : Nat) (s : VS) (xs : List VA) : runA n s xs 0 = s := by unfold runA; rw [List.take_zero]; rfl
theorem runA_succ (n : Nat) (s : VS) (xs : List VA) (k : Nat) (hk : k < xs.length) : runA n s xs (k + 1) = actS n (runA n s xs k) (rdA xs k).f0 (rdA xs k).f1 (rdA xs k).f2 (rdA xs k).f3 (rdA xs k).f4 := by
  unfold runA
  rw [List.take_add_one, List.getElem?_eq_getElem hk, List.foldl_append]
  have : rdA xs (k : Int) = xs[k] := by unfold rdA; rw [Int.toNat_natCast, List.getD_eq_getElem?_getD, List.getElem?_eq_getElem hk]; rfl
  rw [this]; rfl
theorem runA_ok (n : Nat) (s : VS) (xs : List VA) (h : SOk n s) (h0 : s.lost = 0) (hx : xs.length ≤ 140737488351232) : ∀ k : Nat, k ≤ xs.length → SOk n (runA n s xs k) ∧ (runA n s xs k).lost ≤ k
  | 0, _ => by rw [runA_zero]; exact ⟨h, by omega⟩
  | k + 1, hk => by
    obtain ⟨q1, q2⟩ := runA_ok n s xs h h0 hx k (by omega)
    rw [runA_succ n s xs k (by omega)]
    obtain ⟨r1, r2⟩ := actS_ok n _ q1 (by omega) (rdA xs k).f0 (rdA xs k).f1 (rdA xs k).f2 (rdA xs k).f3 (rdA xs k).f4
    exact ⟨r1, by omega⟩
end Go.Proofs.Ytkbaghblchlcnaa.Lr
namespace Go.Proofs.Ytkbaghblchlcnaa.Lr
open Go.RowKit Go.Shelf Go.Proofs.YtkbaghblchlcnaaW.PrintWords Go.Proofs.Ytkbaghblchlcnaa.IAll
theorem blk_lt {w : World} {A : Option Addr} {ls : List S54} (h : Kd.C k54 w A ls.length ls) (ad : Addr) (e : A = some ad) (hn : 0 < ls.length) : ad.block < w.heap.size := by
  obtain ⟨ad', e', c0, _⟩ := at_T54 h 0 (by omega) (by omega)
  rw [e] at e'
  obtain rfl := Option.some.inj e'
  rcases Nat.lt_or_ge ad.block w.heap.size with q | q
  · exact q
  · exfalso
    have hz : w.heap[ad.block]? = none := Array.getElem?_eq_none q
    unfold World.cell? at c0
    simp [Addr.add, hz] at c0
/-- what a script must hold -/
structure ScOk (w : World) (B : Option Addr) (xs : List VA) : Prop where
  C : Kd.C kVA w B xs.length xs
  big : ∀ x ∈ xs, x.f1.length * 56 ≤ 140737488351232
  x0 : ∀ x ∈ xs, 0 ≤ x.f4
  x1 : ∀ x ∈ xs, x.f4 ≤ 18446744073709551615
  len : xs.length ≤ 140737488351232
attribute [local go_sem] Oper.semAt_some cell_row frozen_row isRow_setCell_eq rowAt_setCell_same rowAt_setCell_other isRow_alloc_eq rowAt_alloc rowAt_new rowAt_new' isRow_setRow_eq rowAt_setRow_same rowAt_setRow_other isRow_drew rowAt_drew size_setRow_ Lb_size Lb_at blk_ptr aggOf_agg below_alloc_e below_setCell_e below_setRow_e below_refl_e below_drew_r aside2_alloc_e aside2_setCell_e aside2_setRow_e aside2_drew_e aside2_refl_e aside2_drewN_e isRow_drewN rowAt_drewN below_drewN_e le_add_r offv_ptr one_lad zero_lad allOne_nil allOne_cons Value.oneCell' addr_at FA_size one_FA
attribute [local go_sem ↓] storeI storeC
attribute [local go_sem] eq2i eq2b eq2u
set_option maxRecDepth 100000 in
set_option maxHeartbeats 4000000 in
theorem played_c (n : Nat) (h1 : 1 ≤ n) (h2 : n ≤ 16) (c : Int) (hc : 1 + c % 16 = (n : Int)) (c0 : 0 ≤ c) (m p0 p1 : Int) (o0 o1 sp : Bool) (a b : Int) (ha : 0 ≤ a) (ha' : a ≤ 4294967295) (hb : 0 ≤ b) (hb' : b ≤ 4294967295) (w : World) (B : Option Addr) (cB : Nat) (xs : List VA) (hS : ScOk w B xs) :
    Calls Try.prog 18 #[.int .u8 c, .agg #[.int .i64 m, .int .i64 p0, .int .i64 p1, .bool o0, .bool o1, .bool sp, .int .u32 a, .int .u32 b], .slice B xs.length cB] w fun e w' => ∃ gv lv, e = .returned (.pointer (some ⟨gv, 0, none⟩)) ∧ Row w' gv (vrow n lv (runA n ⟨m, p0, p1, o0, o1, sp, a, b, List.replicate n z54, 0⟩ xs xs.length)) ∧ Row w' lv (FA (runA n ⟨m, p0, p1, o0, o1, sp, a, b, List.replicate n z54, 0⟩ xs xs.length).xs) ∧ ¬ gv = lv ∧ w.heap.size ≤ gv ∧ w.heap.size ≤ lv ∧ Below w.heap.size w w' := by
  have HM := Lib.hid (fun W : World => made_c n h1 h2 c hc c0 m p0 p1 o0 o1 sp a b ha ha' hb hb' W)
  have HS := Lib.hid hS
  clear hS
  have hs0 : SOk n ⟨m, p0, p1, o0, o1, sp, a, b, List.replicate n z54, 0⟩ := ⟨List.length_replicate, h2, by omega, rep_st n, Int.le_refl 0, by show (0 : Int) ≤ 4611686018427387904; omega⟩
  have hl0 : (⟨m, p0, p1, o0, o1, sp, a, b, List.replicate n z54, 0⟩ : VS).lost = 0 := rfl
  generalize hs : (⟨m, p0, p1, o0, o1, sp, a, b, List.replicate n z54, 0⟩ : VS) = s0 at *
  have HO := Lib.hid (runA_ok n s0 xs hs0 hl0 HS.out.len)
  clear hs0 hl0
  have hB := Below.refl w.heap.size w
  go_enter Try.func18, Try.ntmps18
  go_wp2_with fail
  refine (HM.out _).mono ?_
  rintro e v1 ⟨gv, lv, gr, lr, rfl, V1, L1, R1, Q1, n12, n13, n14, n23, n24, n34, b1, b2, b3, b4, hb1⟩
  simp only [World.size_alloc] at b1 b2 b3 b4
  have L1' : Row v1 lv (FA s0.xs) := by rw [← hs]; exact L1
  have Q1' : Row v1 lr (FA s0.xs) := by rw [← hs]; exact Q1
  clear L1 Q1
  have hB1 : Below w.heap.size w v1 := bk (by go_simp) (by first | (go_simp; done) | (go_simp; omega)) hb1
  clear hb1 hB
  go_wp2_with fail
  go_loopw [9] (fun i wq => ∃ k : Nat, k ≤ xs.length ∧ i = .int .i64 k ∧ Row wq gv (vrow n lv (runA n s0 xs k)) ∧ Row wq lv (FA (runA n s0 xs k).xs) ∧ Row wq gr (rrow n lr (runA n s0 xs k)) ∧ Row wq lr (FA (runA n s0 xs k).xs) ∧ Below w.heap.size w wq) (fun i _ => xs.length - (intOf i).toNat)
  case atStart => exact ⟨0, by omega, rfl, by rw [runA_zero]; exact V1, by rw [runA_zero]; exact L1', by rw [runA_zero]; exact R1, by rw [runA_zero]; exact Q1', hB1⟩
  case round =>
    clear V1 L1' R1 Q1' hB1
    obtain ⟨k, hk, rfl, G1, G2, G3, G4, hF⟩ := hrel
    have hlen := HS.out.len
    by_cases hkn : k < xs.length
    · have k1 : (0 : Int) ≤ (k : Int) := by omega
      have k2 : (k : Int) < (xs.length : Int) := by omega
      obtain ⟨ad, A, cA, rfl, c0, c1, c2, c3, c4, hcA, hCA⟩ := at_A HS.out.C (k : Int) (by omega) (by omega)
      have hCA' := hCA
      replace c0 := pw_cell_below hF c0
      replace c1 := pw_cell_below hF c1
      replace c2 := pw_cell_below hF c2
      replace c3 := pw_cell_below hF c3
      replace c4 := pw_cell_below hF c4
      replace hCA := Kd.C_below hCA hF
      have hm := rdA_mem xs k hkn
      have hbig := HS.out.big _ hm
      have hx0 := HS.out.x0 _ hm
      have hx1 := HS.out.x1 _ hm
      have hAd : ∀ ad, A = some ad → 0 < (rdA xs k).f1.length → ad.block < wr.heap.size ∧ ¬ In4 gv lv gr lr ad.block := fun ad e hn => by
        have q := blk_lt hCA' ad e hn
        have q' := hF.size
        exact ⟨by omega, not_in4 (by omega) (by omega) (by omega) (by omega)⟩
      obtain ⟨hok, hlost⟩ := HO.out k hk
      have HD := Lib.hid (fun q1 q2 => does_c n gv lv gr lr (runA n s0 xs k) hok (rdA xs k).f0 A cA (rdA xs k).f1 (rdA xs k).f2 (rdA xs k).f3 (rdA xs k).f4 hx0 hx1 wr G1.1 G1.2 G2.1 G2.2 G3.1 G3.2 G4.1 G4.2 n12 n13 n14 n23 n24 n34 q1 hcA hbig q2)
      have hsz := hF.size
      simp only [Int.toNat_natCast] at c0 c1 c2 c3 c4
      clear hm hbig hx0 hx1
      go_wp2_with fail
      refine (HD.out hCA hAd).mono ?_
      rintro e v2 ⟨rfl, X1, X2, X3, X4, hA2⟩
      have hB2 : Below w.heap.size w v2 := hA2.below hF (fun j e => by unfold In4 at e; omega) hsz
      rw [← runA_succ n s0 xs k hkn] at X1 X2 X3 X4
      go_wp2
      go_roundw
      case rel => exact ⟨k + 1, by omega, by go_num, X1, X2, X3, X4, hB2⟩
      case measure => simp [intOf]; omega
    · have hkn' : k = xs.length := by omega
      subst hkn'
      go_wp2
      go_ret
      exact ⟨gv, lv, rfl, G1, G2, n12, by omega, by omega, hF⟩
end Go.Proofs.Ytkbaghblchlcnaa.Lr
namespace Go.Proofs.Ytkbaghblchlcnaa.Lr
open Go.RowKit Go.Shelf Go.Proofs.YtkbaghblchlcnaaW.PrintWords Go.Proofs.Ytkbaghblchlcnaa.IAll
/-- why a maintenance interrupt would come -/
def asks (xs : List S54) (lost k : Int) : Bool := if k = 0 then bitsOf (places pDone xs) != 0 else if k = 1 then decide ((xs.length : Int) - (places pFree xs).length ≤ 1) else if k = 2 then decide (0 < lost) else if k = 3 then bitsOf (places pWaits xs) == 0 else false
attribute [local go_sem] Oper.semAt_some cell_row frozen_row isRow_setCell_eq rowAt_setCell_same rowAt_setCell_other isRow_alloc_eq rowAt_alloc rowAt_new rowAt_new' isRow_setRow_eq rowAt_setRow_same rowAt_setRow_other isRow_drew rowAt_drew size_setRow_ Lb_size Lb_at blk_ptr aggOf_agg below_alloc_e below_setCell_e below_setRow_e below_refl_e below_drew_r aside2_alloc_e aside2_setCell_e aside2_setRow_e aside2_drew_e aside2_refl_e aside2_drewN_e isRow_drewN rowAt_drewN below_drewN_e le_add_r offv_ptr one_lad zero_lad allOne_nil allOne_cons Value.oneCell' addr_at FA_size one_FA
attribute [local go_sem ↓] storeI storeC
attribute [local go_sem] eq2i eq2b eq2u
set_option maxRecDepth 100000 in
set_option maxHeartbeats 4000000 in
theorem asks0_c (g bl : Nat) (m p0 p1 : Int) (o0 o1 sp : Bool) (a b : Int) (n : Nat) (xs : List S54) (hn : xs.length = n) (h16 : n ≤ 16) (lost : Int) (w : World) (hr : isRow w g) (hr' : rowAt w g = #[.int .i64 m, .int .i64 p0, .int .i64 p1, .bool o0, .bool o1, .bool sp, .int .u32 a, .int .u32 b, .slice (some ⟨bl, 0, none⟩) n n, .int .i64 lost]) (hl : isRow w bl) (hl' : rowAt w bl = FA xs) (hne : ¬ g = bl) : Calls Try.prog 26 #[.pointer (some ⟨g, 0, none⟩), .int .i64 0] w fun e w' => e = .returned (.bool (asks xs lost 0)) ∧ Below w.heap.size w w' := by
  subst hn
  have hne' : ¬ bl = g := fun e => hne e.symm
  have hC : Kd.C k54 w (some ⟨bl, 0, none⟩) xs.length xs := fa_kd hl hl' (by omega)
  have HC := Lib.hid hC
  clear hC
  have hB := Below.refl w.heap.size w
  go_enter Try.func26, Try.ntmps26
  go_wp2_with fail
  refine (Done_c _ _ _ _).mono ?_
  rintro e v1 ⟨rfl, rfl⟩
  go_wp2_with fail
  refine (lr_Bits_Done.calls _ _ xs _ w HC.out (Nat.le_refl _) (by unfold lr_Bits_Done.f; rw [if_pos (by omega)])).mono ?_
  rintro e v2 ⟨rfl, hb2⟩
  go_wp2
  go_ret
  exact ⟨rfl, hb2⟩
set_option maxRecDepth 100000 in
set_option maxHeartbeats 4000000 in
theorem asks1_c (g bl : Nat) (m p0 p1 : Int) (o0 o1 sp : Bool) (a b : Int) (n : Nat) (xs : List S54) (hn : xs.length = n) (h16 : n ≤ 16) (lost : Int) (w : World) (hr : isRow w g) (hr' : rowAt w g = #[.int .i64 m, .int .i64 p0, .int .i64 p1, .bool o0, .bool o1, .bool sp, .int .u32 a, .int .u32 b, .slice (some ⟨bl, 0, none⟩) n n, .int .i64 lost]) (hl : isRow w bl) (hl' : rowAt w bl = FA xs) (hne : ¬ g = bl) : Calls Try.prog 26 #[.pointer (some ⟨g, 0, none⟩), .int .i64 1] w fun e w' => e = .returned (.bool (asks xs lost 1)) ∧ Below w.heap.size w w' := by
  subst hn
  have hne' : ¬ bl = g := fun e => hne e.symm
  have hC : Kd.C k54 w (some ⟨bl, 0, none⟩) xs.length xs := fa_kd hl hl' (by omega)
  have HC := Lib.hid hC
  clear hC
  have hB := Below.refl w.heap.size w
  go_enter Try.func26, Try.ntmps26
  go_wp2_with fail
  refine (lr_Used.calls _ _ xs _ w HC.out (Nat.le_refl _) (by unfold lr_Used.f; rw [if_pos (by omega)])).mono ?_
  rintro e v2 ⟨rfl, hb2⟩
  go_wp2
  go_ret
  exact ⟨rfl, hb2⟩
set_option maxRecDepth 100000 in
set_option maxHeartbeats 4000000 in
theorem asks2_c (g bl : Nat) (m p0 p1 : Int) (o0 o1 sp : Bool) (a b : Int) (n : Nat) (xs : List S54) (hn : xs.length = n) (h16 : n ≤ 16) (lost : Int) (w : World) (hr : isRow w g) (hr' : rowAt w g = #[.int .i64 m, .int .i64 p0, .int .i64 p1, .bool o0, .bool o1, .bool sp, .int .u32 a, .int .u32 b, .slice (some ⟨bl, 0, none⟩) n n, .int .i64 lost]) (hl : isRow w bl) (hl' : rowAt w bl = FA xs) (hne : ¬ g = bl) : Calls Try.prog 26 #[.pointer (some ⟨g, 0, none⟩), .int .i64 2] w fun e w' => e = .returned (.bool (asks xs lost 2)) ∧ Below w.heap.size w w' := by
  subst hn
  have hne' : ¬ bl = g := fun e => hne e.symm
  have hC : Kd.C k54 w (some ⟨bl, 0, none⟩) xs.length xs := fa_kd hl hl' (by omega)
  have HC := Lib.hid hC
  clear hC
  have hB := Below.refl w.heap.size w
  clear h16
  go_enter Try.func26, Try.ntmps26
  go_wp2
  go_ret
  exact ⟨rfl, hB⟩
set_option maxRecDepth 100000 in
set_option maxHeartbeats 4000000 in
theorem asks3_c (g bl : Nat) (m p0 p1 : Int) (o0 o1 sp : Bool) (a b : Int) (n : Nat) (xs : List S54) (hn : xs.length = n) (h16 : n ≤ 16) (lost : Int) (w : World) (hr : isRow w g) (hr' : rowAt w g = #[.int .i64 m, .int .i64 p0, .int .i64 p1, .bool o0, .bool o1, .bool sp, .int .u32 a, .int .u32 b, .slice (some ⟨bl, 0, none⟩) n n, .int .i64 lost]) (hl : isRow w bl) (hl' : rowAt w bl = FA xs) (hne : ¬ g = bl) : Calls Try.prog 26 #[.pointer (some ⟨g, 0, none⟩), .int .i64 3] w fun e w' => e = .returned (.bool (asks xs lost 3)) ∧ Below w.heap.size w w' := by
  subst hn
  have hne' : ¬ bl = g := fun e => hne e.symm
  have hC : Kd.C k54 w (some ⟨bl, 0, none⟩) xs.length xs := fa_kd hl hl' (by omega)
  have HC := Lib.hid hC
  clear hC
  have hB := Below.refl w.heap.size w
  go_enter Try.func26, Try.ntmps26
  go_wp2_with fail
  refine (Waits_c _ _ _ _).mono ?_
  rintro e v1 ⟨rfl, rfl⟩
  go_wp2_with fail
  refine (lr_Bits_Waits.calls _ _ xs _ w HC.out (Nat.le_refl _) (by unfold lr_Bits_Waits.f; rw [if_pos (by omega)])).mono ?_
  rintro e v2 ⟨rfl, hb2⟩
  go_wp2
  go_ret
  exact ⟨rfl, hb2⟩
end Go.Proofs.Ytkbaghblchlcnaa.Lr
namespace Go.Proofs.Ytkbaghblchlcnaa.Lr
open Go.RowKit Go.Shelf Go.Proofs.YtkbaghblchlcnaaW.PrintWords Go.Proofs.Ytkbaghblchlcnaa.IAll
/-- the reasons below k -/
def rsn (xs : List S54) (lost : Int) : Nat → List Int
  | 0 => []
  | k + 1 => rsn xs lost k ++ (if asks xs lost k then [(k : Int)] else [])
theorem rsn_lt (xs : List S54) (lost : Int) : ∀ (k : Nat) (x : Int), x ∈ rsn xs lost k → 0 ≤ x ∧ x < k
  | 0, x, h => by cases h
  | k + 1, x, h => by
    rw [rsn, List.mem_append] at h
    rcases h with h | h
    · have := rsn_lt xs lost k x h; omega
    · split at h
      · rw [List.mem_singleton] at h; omega
      · cases h
theorem rsn_pre (xs : List S54) (lost : Int) (k : Nat) : ∀ d : Nat, ∃ post, rsn xs lost (k + d) = rsn xs lost k ++ post
  | 0 => ⟨[], by simp⟩
  | d + 1 => by
    obtain ⟨post, h⟩ := rsn_pre xs lost k d
    exact ⟨_, by rw [Nat.add_succ, rsn, h, List.append_assoc]⟩
theorem rsn_at (xs : List S54) (lost : Int) (k : Nat) (hk : k < 4) (h : asks xs lost k = true) : ∃ post, rsn xs lost 4 = rsn xs lost k ++ (k : Int) :: post := by
  obtain ⟨post, e⟩ := rsn_pre xs lost (k + 1) (4 - (k + 1))
  rw [show k + 1 + (4 - (k + 1)) = 4 by omega] at e
  exact ⟨post, by rw [e, rsn, if_pos h, List.append_assoc]; rfl⟩
attribute [local go_sem] Oper.semAt_some cell_row frozen_row isRow_setCell_eq rowAt_setCell_same rowAt_setCell_other isRow_alloc_eq rowAt_alloc rowAt_new rowAt_new' isRow_setRow_eq rowAt_setRow_same rowAt_setRow_other isRow_drew rowAt_drew size_setRow_ Lb_size Lb_at blk_ptr aggOf_agg below_alloc_e below_setCell_e below_setRow_e below_refl_e below_drew_r aside2_alloc_e aside2_setCell_e aside2_setRow_e aside2_drew_e aside2_refl_e aside2_drewN_e isRow_drewN rowAt_drewN below_drewN_e le_add_r offv_ptr one_lad zero_lad allOne_nil allOne_cons Value.oneCell' addr_at FA_size one_FA
attribute [local go_sem ↓] storeI storeC
attribute [local go_sem] eq2i eq2b eq2u
section
variable (g bl : Nat) (m p0 p1 : Int) (o0 o1 sp : Bool) (a b : Int) (n : Nat) (xs : List S54) (hn : xs.length = n) (h16 : n ≤ 16) (lost : Int) (hne : ¬ g = bl)
include hn h16 hne
theorem asks_c (k : Nat) (hk : k < 4) (w : World) (hr : isRow w g) (hr' : rowAt w g = #[.int .i64 m, .int .i64 p0, .int .i64 p1, .bool o0, .bool o1, .bool sp, .int .u32 a, .int .u32 b, .slice (some ⟨bl, 0, none⟩) n n, .int .i64 lost]) (hl : isRow w bl) (hl' : rowAt w bl = FA xs) : Calls Try.prog 26 #[.pointer (some ⟨g, 0, none⟩), .int .i64 k] w fun e w' => e = .returned (.bool (asks xs lost k)) ∧ Below w.heap.size w w' := by
  rcases (show k = 0 ∨ k = 1 ∨ k = 2 ∨ k = 3 by omega) with rfl | rfl | rfl | rfl
  · exact asks0_c g bl m p0 p1 o0 o1 sp a b n xs hn h16 lost w hr hr' hl hl' hne
  · exact asks1_c g bl m p0 p1 o0 o1 sp a b n xs hn h16 lost w hr hr' hl hl' hne
  · exact asks2_c g bl m p0 p1 o0 o1 sp a b n xs hn h16 lost w hr hr' hl hl' hne
  · exact asks3_c g bl m p0 p1 o0 o1 sp a b n xs hn h16 lost w hr hr' hl hl' hne
set_option maxRecDepth 100000 in
set_option maxHeartbeats 1000000 in
theorem reasons_iter (Pv : Obj → Prop) (S : Nat → Prop) (T : TypeId → Prop) (Bv : Nat) (W0 : World) (hS : ∀ k, S k → k < W0.heap.size) (hSv : S Bv) (hSg : S g) (hSl : S bl)
    (hv : Boxed W0 Bv 24 (.pointer (some ⟨g, 0, none⟩))) (hr : Row W0 g #[.int .i64 m, .int .i64 p0, .int .i64 p1, .bool o0, .bool o1, .bool sp, .int .u32 a, .int .u32 b, .slice (some ⟨bl, 0, none⟩) n n, .int .i64 lost]) (hl : Row W0 bl (FA xs)) :
    Iter Pv Try.prog 90 #[.pointer (some ⟨Bv, 0, none⟩)] (fun x : Int => #[.int .i64 x]) (KeepsS S T) (rsn xs lost 4) W0 := by
  intro l J Jx W hW hJ hJx hY h0
  have hK0 : KeepsS S T W0 W := KeepsS.new hW hS
  refine callsIn_of_wp Try.func90 rfl trivial ?_ rfl
  simp only [Try.ntmps90, List.size_toArray, List.length_cons, List.length_nil, Nat.reduceAdd, Nat.reduceSub, Array.replicate_succ, Array.replicate_zero, List.push_toArray, List.append_toArray, List.nil_append, List.cons_append]
  gi_wp2
  gi_loopw [3] (fun q wr => ∃ k : Nat, k ≤ 4 ∧ q = .int .i64 k ∧ J (rsn xs lost k) wr ∧ KeepsS S T W0 wr) (fun q _ => 4 - (intOf q).toNat)
  case atStart => exact ⟨0, by omega, rfl, h0, hK0⟩
  case round =>
    obtain ⟨k, hk, rfl, hj, hB⟩ := hrel
    have hvc := (hB.boxed hSv hv).cell
    by_cases hlt : k < 4
    · have k1 : (k : Int) < 4 := by omega
      have hr2 : Row wr g #[.int .i64 m, .int .i64 p0, .int .i64 p1, .bool o0, .bool o1, .bool sp, .int .u32 a, .int .u32 b, .slice (some ⟨bl, 0, none⟩) n n, .int .i64 lost] := hr.same (hB.same _ hSg)
      have hl2 : Row wr bl (FA xs) := hl.same (hB.same _ hSl)
      have HIn := Lib.hid (in_of_calls (asks_c g bl m p0 p1 o0 o1 sp a b n xs hn h16 lost hne k hlt wr hr2.1 hr2.2 hl2.1 hl2.2))
      clear hr2 hl2
      cases hp : asks xs lost k with
      | true =>
        have HS := Lib.hid (show rsn xs lost (k + 1) = rsn xs lost k ++ [(k : Int)] by rw [rsn, if_pos hp])
        obtain ⟨post, hx⟩ := rsn_at xs lost k hlt hp
        have HX := Lib.hid hx
        rw [hp] at HIn
        clear hx hp
        gi_wp2_with (refine HIn.out.mono ?_; rintro e W3 ⟨rfl, hb3⟩; have hb4 := Lib.hid hb3; clear hb3; obtain ⟨fn, tmps, assign, body, hy, hR⟩ := hY _ _ _ W3 HX.out (hJ.under hj hb4.out))
        refine hR.mono ?_
        rintro e W5 ⟨(⟨rfl, hJ3, hk3⟩ | ⟨rfl, hJx3⟩), -⟩
        · gi_wp2
          go_roundw
          case rel => exact ⟨k + 1, by omega, congrArg (Value.int .i64) (by go_num), by rw [HS.out]; exact hJ3, (hB.trans (KeepsS.new hb4.out (fun k hk => Nat.lt_of_lt_of_le (hS k hk) hB.size))).trans hk3⟩
          case measure => simp [intOf]; omega
        · gi_wp2
          refine bodyPost_ret (results_none rfl _ _ _) rfl ?_
          exact ⟨⟨_, rfl⟩, .inr ⟨_, _, _, HX.out, hJx3⟩⟩
      | false =>
        have HS := Lib.hid (show rsn xs lost (k + 1) = rsn xs lost k by rw [rsn, if_neg (by rw [hp]; simp), List.append_nil])
        rw [hp] at HIn
        clear hp
        gi_wp2_with (refine HIn.out.mono ?_; rintro e W3 ⟨rfl, hb3⟩; have hb4 := Lib.hid hb3; clear hb3)
        go_roundw
        case rel => exact ⟨k + 1, by omega, congrArg (Value.int .i64) (by go_num), by rw [HS.out]; exact hJ.under hj hb4.out, hB.trans (KeepsS.new hb4.out (fun k hk => Nat.lt_of_lt_of_le (hS k hk) hB.size))⟩
        case measure => simp [intOf]; omega
    · obtain rfl : k = 4 := by omega
      gi_wp2
      go_end0
      exact ⟨⟨_, rfl⟩, .inl hj⟩
end
end Go.Proofs.Ytkbaghblchlcnaa.Lr
namespace Go.Proofs.Ytkbaghblchlcnaa.Lr
open Go.RowKit Go.Shelf Go.Proofs.YtkbaghblchlcnaaW.PrintWords Go.Proofs.YtkbaghblchlcnaaW.PrintMore Go.Proofs.Ytkbaghblchlcnaa.IAll
attribute [local go_sem] Oper.semAt_some
def rsnV (w : World) : Value := .func (.func 90) #[] #[.pointer (some ⟨w.heap.size, 0, none⟩)]
theorem Reasons_c (g : Nat) (w : World) : Calls Try.prog 65 #[.pointer (some ⟨g, 0, none⟩)] w fun e w' => e = .returned (rsnV w) ∧ w.alloc (.cells #[.pointer (some ⟨g, 0, none⟩)] 24) = w' := by
  go_enter Try.func65, Try.ntmps65
  go_wp2
  go_ret
  exact ⟨rfl, rfl⟩
/-- the blocks that the iterator reads -/
def RsS (g bl h k : Nat) : Prop := k = g ∨ k = bl ∨ k = h
set_option maxRecDepth 100000 in
set_option maxHeartbeats 1000000 in
theorem Misr_c (g bl : Nat) (m p0 p1 : Int) (o0 o1 sp : Bool) (a b : Int) (n : Nat) (xs : List S54) (hn : xs.length = n) (h16 : n ≤ 16) (lost : Int) (hne : ¬ g = bl) (w : World) (hr : Row w g #[.int .i64 m, .int .i64 p0, .int .i64 p1, .bool o0, .bool o1, .bool sp, .int .u32 a, .int .u32 b, .slice (some ⟨bl, 0, none⟩) n n, .int .i64 lost]) (hl : Row w bl (FA xs)) :
    Calls Try.prog 35 #[.pointer (some ⟨g, 0, none⟩)] w fun e w' => e = .returned (.int .u64 (bitsOf (rsn xs lost 4))) ∧ Below w.heap.size w w' := by
  refine calls_of_wide ?_
  refine callsIn_of_wp_marks Try.func35 rfl trivial ?_ rfl
  simp only [Try.ntmps35, List.size_toArray, List.length_cons, List.length_nil, Nat.reduceAdd, Nat.reduceSub, Array.replicate_succ, Array.replicate_zero, List.push_toArray, List.append_toArray, List.nil_append, List.cons_append]
  have lg := hr.lt
  have ll := hl.lt
  gi_wp2_with (refine (in_of_calls (Reasons_c g _)).mono ?_; rintro e W9 ⟨rfl, rfl⟩)
  have hb0 : Below w.heap.size w (w.alloc (.cells #[.int .u64 0] 67)) := (Below.refl _ w).alloc (Nat.le_refl _) _
  have hN0 : Boxed (w.alloc (.cells #[.int .u64 0] 67)) w.heap.size 67 (.int .u64 0) := Boxed.new w 67 _
  have hs0 : (w.alloc (.cells #[.int .u64 0] 67)).heap.size = w.heap.size + 1 := by simp
  have hr0 : Row (w.alloc (.cells #[.int .u64 0] 67)) g #[.int .i64 m, .int .i64 p0, .int .i64 p1, .bool o0, .bool o1, .bool sp, .int .u32 a, .int .u32 b, .slice (some ⟨bl, 0, none⟩) n n, .int .i64 lost] := hr.below hb0 lg
  have hl0 : Row (w.alloc (.cells #[.int .u64 0] 67)) bl (FA xs) := hl.below hb0 ll
  generalize w.alloc (.cells #[.int .u64 0] 67) = W0 at *
  have hb1 : Below w.heap.size w (W0.alloc (.cells #[.pointer (some ⟨g, 0, none⟩)] 24)) := hb0.alloc (by omega) _
  have hN1 : Boxed (W0.alloc (.cells #[.pointer (some ⟨g, 0, none⟩)] 24)) w.heap.size 67 (.int .u64 0) := hN0.alloc _
  have hv1 : Boxed (W0.alloc (.cells #[.pointer (some ⟨g, 0, none⟩)] 24)) W0.heap.size 24 (.pointer (some ⟨g, 0, none⟩)) := Boxed.new W0 24 _
  have hs1 : (W0.alloc (.cells #[.pointer (some ⟨g, 0, none⟩)] 24)).heap.size = w.heap.size + 2 := by simp; omega
  have hr1 : Row (W0.alloc (.cells #[.pointer (some ⟨g, 0, none⟩)] 24)) g #[.int .i64 m, .int .i64 p0, .int .i64 p1, .bool o0, .bool o1, .bool sp, .int .u32 a, .int .u32 b, .slice (some ⟨bl, 0, none⟩) n n, .int .i64 lost] := ⟨isRow_alloc hr0.1, (rowAt_alloc hr0.1).trans hr0.2⟩
  have hl1 : Row (W0.alloc (.cells #[.pointer (some ⟨g, 0, none⟩)] 24)) bl (FA xs) := ⟨isRow_alloc hl0.1, (rowAt_alloc hl0.1).trans hl0.2⟩
  rw [hs0] at hv1
  unfold rsnV
  rw [hs0]
  generalize W0.alloc (.cells #[.pointer (some ⟨g, 0, none⟩)] 24) = W1 at *
  have hS : ∀ k, RsS g bl (w.heap.size + 1) k → k < W1.heap.size ∧ k ≠ w.heap.size := by
    rintro k (rfl | rfl | rfl) <;> omega
  refine wp_range (Pv := NoCells) (fun _ h => h) rfl (enters_of Try.func90 (by kernel_rfl) rfl) (reasons_iter g bl m p0 p1 o0 o1 sp a b n xs hn h16 lost hne NoCells (RsS g bl (w.heap.size + 1)) (fun _ => False) (w.heap.size + 1) W1 (fun k h => (hS k h).1) (.inr (.inr rfl)) (.inl rfl) (.inr (.inl rfl)) hv1 hr1 hl1) (Below.refl _ _)
    (fun h k => h.trans k) (KeepsS.put (fun k h => (hS k h).1)) (fun _ => rfl)
    (fun pre W => Boxed W w.heap.size 67 (.int .u64 (bitsOf pre)) ∧ Below w.heap.size w W) (fun _ _ _ => False)
    ((OwnP.box NoCells (by omega) 67 (fun pre : List Int => .int .u64 (bitsOf pre))).and (OwnP.below NoCells (by omega) (by omega))) (fun _ => OwnP.const _ _ (fun _ => False))
    ⟨hN1, hb1⟩ ?round ?done ?stop
  case round =>
    rintro l pre x post W hx hl_ hlt ⟨hb, hB⟩
    have hx0 : 0 ≤ x := (rsn_lt xs lost 4 x (by rw [hx]; simp)).1
    clear hx hN0 hb0 hN1 hb1 hv1 hr1 hl1 hr0 hl0 hr hl
    gi_wp2
    refine ⟨KeepsFrom.refl _ _, KeepsS.refl _ _ _, ⟨hb, hB⟩, ?_⟩
    clear hb hB
    rintro W2 hg ⟨hb, hB⟩
    have hc := hb.cell
    have hf := hb.frozen
    clear hg
    have HSH := Lib.hid (shl_is x)
    gi_wp2
    gi_region
    all_goals
      rw [← HSH.out]
      refine ⟨KeepsFrom.drew_ ((KeepsOthers.setCell _ _ _).from _), KeepsS.drew_ (KeepsS.set (p := ⟨w.heap.size, 0, none⟩) hb (fun h => h) (fun k hk => (hS k hk).2) _), ?_, below_drew_ (hB.setCell (p := ⟨w.heap.size, 0, none⟩) (by simp) _)⟩
      have := hb.set (.int .u64 (Go.bits .or .u64 (bitsOf pre) (shl .u64 1 x)))
      rw [bitsOf_snoc]; exact this
  case done =>
    rintro D W hD ⟨hb, hB⟩ hK
    have hc := hb.cell
    gi_wp2
    refine leave_mark hK (v := .int .u64 (bitsOf (rsn xs lost 4))) (by simp [results, Try.results35, go_sem]) ⟨rfl, below_putD hB (by omega) _⟩
  case stop =>
    rintro D c pre x post W _ _ h _
    exact h.elim
end Go.Proofs.Ytkbaghblchlcnaa.Lr
namespace Go.Proofs.Ytkbaghblchlcnaa.Lr
open Go.RowKit Go.Shelf Go.Proofs.YtkbaghblchlcnaaW.PrintWords Go.Proofs.Ytkbaghblchlcnaa.IAll
def exL : S54 := ⟨1, 40, 160, 1, false, 0, false⟩
def exA : S54 := ⟨2, 40, 160, 1, false, 0, false⟩
theorem exL_good : goodL [exL] := by
  rintro ⟨a, ha, h⟩
  have ha' : a = 0 := by simp at ha; omega
  subst ha'
  rcases h with h | ⟨q, hq, -⟩
  · exact h (by decide)
  · omega
theorem ex_loadN : loadN 2 [exL] = 0 := by unfold loadN; rw [if_neg (by decide), if_pos exL_good]
theorem ex_loadXs (xs : List S54) : loadXs 2 xs [exL] = [exL, z54] := by unfold loadXs; rw [if_neg (by decide), if_pos exL_good]; rfl
def ex0 (xs : List S54) (a b lost : Int) : VS := ⟨248, 0, 0, false, true, false, a, b, xs, lost⟩
theorem ex1 : doV (ex0 [exL, z54] 0 0 0) 2 false 0 = (ex0 [exA, z54] 0 1048576 0, ⟨40, false, -1, true⟩) := by kernel_rfl
theorem ex2 : bitsOf (rsn [exA, z54] 0 4) = 10 := by kernel_rfl
def ex3s : VS := (doV (ex0 [exA, z54] 0 1048576 0) 4 true 40).1
theorem ex3 : (doV (ex0 [exA, z54] 0 1048576 0) 4 true 40).2 = ⟨0, true, -1, true⟩ := by kernel_rfl
def ex4s : VS := (doV ex3s 2 false 0).1
theorem ex4 : (doV ex3s 2 false 0).2 = ⟨1023, false, -1, true⟩ := by kernel_rfl
def ex5s : VS := (doV ex4s 4 true 50).1
theorem ex5 : (doV ex4s 4 true 50).2 = ⟨0, false, -1, true⟩ := by kernel_rfl
theorem ex_ok (xs : List S54) (a b lost : Int) (h : xs.length = 2) (hs : stOk xs) (h0 : 0 ≤ lost) (h1 : lost ≤ 4611686018427387904) : SOk 2 (ex0 xs a b lost) := ⟨h, by omega, by omega, hs, h0, h1⟩
theorem ex3_ok : SOk 2 ex3s := ⟨by kernel_rfl, by omega, by omega, fun k hk => by
  have hk' : k < 2 := hk
  rcases (show k = 0 ∨ k = 1 by omega) with rfl | rfl <;> decide, by decide, by decide⟩
theorem ex4_ok : SOk 2 ex4s := ⟨by kernel_rfl, by omega, by omega, fun k hk => by
  have hk' : k < 2 := hk
  rcases (show k = 0 ∨ k = 1 by omega) with rfl | rfl <;> decide, by decide, by decide⟩
theorem exA_ok : SOk 2 (ex0 [exA, z54] 0 1048576 0) := ⟨rfl, by omega, by omega, fun k hk => by
  have hk' : k < 2 := hk
  rcases (show k = 0 ∨ k = 1 by omega) with rfl | rfl <;> decide, by decide, by decide⟩
end Go.Proofs.Ytkbaghblchlcnaa.Lr
namespace Go.Proofs.Ytkbaghblchlcnaa.Lr
open Go.RowKit Go.Shelf Go.Proofs.YtkbaghblchlcnaaW.PrintWords Go.Proofs.Ytkbaghblchlcnaa.IAll
theorem exdo (n g bl : Nat) (s s' : VS) (h : SOk n s) (hne : ¬ g = bl) (r : Int) (wr : Bool) (x : Int) (a : Int) (b : Bool) (c : Int) (d : Bool) (e1 : (doV s r wr x).1 = s') (e2 : (doV s r wr x).2 = ⟨a, b, c, d⟩) (w : World) (hl : isRow w bl) (hl' : rowAt w bl = FA s.xs) (hr : isRow w g) (hr' : rowAt w g = vrow n bl s) :
    Calls Try.prog 28 #[.pointer (some ⟨g, 0, none⟩), .int .i64 r, .bool wr, .int .u64 x] w fun e w' => e = .returned (.tuple #[.int .u64 a, .agg #[.bool b, .int .i64 c], .bool d]) ∧ Row w' g (vrow n bl s') ∧ Row w' bl (FA s'.xs) ∧ Aside2 g bl w w' := by
  have q := vdo_c n g bl s h hne w hl hl' hr hr' r wr x
  rw [e1, e2] at q
  exact q
attribute [local go_sem] Oper.semAt_some cell_row frozen_row isRow_setCell_eq rowAt_setCell_same rowAt_setCell_other isRow_alloc_eq rowAt_alloc rowAt_new rowAt_new' isRow_setRow_eq rowAt_setRow_same rowAt_setRow_other isRow_drew rowAt_drew size_setRow_ Lb_size Lb_at blk_ptr aggOf_agg below_alloc_e below_setCell_e below_setRow_e below_refl_e below_drew_r aside2_alloc_e aside2_setCell_e aside2_setRow_e aside2_drew_e aside2_refl_e aside2_drewN_e isRow_drewN rowAt_drewN below_drewN_e le_add_r offv_ptr one_lad zero_lad allOne_nil allOne_cons Value.oneCell' addr_at FA_size one_FA
attribute [local go_sem ↓] storeI storeC storeE storeLm
attribute [local go_sem] eq2i eq2b eq2u
set_option maxRecDepth 100000 in
set_option maxHeartbeats 4000000 in
theorem awake_c (w : World) : Calls Try.prog 11 #[] w fun e w' => e = .returned (.bool true) ∧ Below w.heap.size w w' := by
  have n1 : ¬ w.heap.size = w.heap.size + 1 := by omega
  have n2 : ¬ w.heap.size + 1 = w.heap.size := by omega
  go_enter Try.func11, Try.ntmps11
  go_wp2_with fail
  refine (VNew_c 2 (by omega) (by omega) _).mono ?_
  rintro e v0 ⟨rfl, ⟨Va, Va'⟩, ⟨La, La'⟩, hb1⟩
  unfold vrow at Va'
  have hz1 : w.heap.size ≤ v0.heap.size := hb1.size
  have l1 := Va.lt
  have n3 : ¬ v0.heap.size = w.heap.size := by omega
  have n4 : ¬ w.heap.size = v0.heap.size := by omega
  have n5 : ¬ v0.heap.size = w.heap.size + 1 := by omega
  have n6 : ¬ w.heap.size + 1 = v0.heap.size := by omega
  have ne_V_X : ¬ w.heap.size + 1 = v0.heap.size := by omega
  have en_V_X : ¬ v0.heap.size = w.heap.size + 1 := by omega
  have ne_L_X : ¬ w.heap.size = v0.heap.size := by omega
  have en_L_X : ¬ v0.heap.size = w.heap.size := by omega
  go_wp2_with fail
  refine calls_named (fun W_ => (isRow W_ (w.heap.size + 1) ∧ rowAt W_ (w.heap.size + 1) = #[.int .i64 248, .int .i64 0, .int .i64 0, .bool false, .bool true, .bool false, .int .u32 0, .int .u32 0, .slice (some ⟨w.heap.size, 0, none⟩) 2 2, .int .i64 0]) ∧ (isRow W_ w.heap.size ∧ rowAt W_ w.heap.size = (FA (List.replicate 2 z54))) ∧ (isRow W_ v0.heap.size ∧ rowAt W_ v0.heap.size = #[.int .i64 1, .int .i64 40, .int .i64 160, .int .i64 1, .bool false, .int .i64 0, .bool false]) ∧ Below w.heap.size w W_) (by refine ⟨⟨by go_simp, by go_simp⟩, ⟨by go_simp, by go_simp⟩, ⟨by go_simp, by go_simp⟩, by go_simp⟩) ?_
  rintro v1 ⟨⟨V_1, V_1'⟩, ⟨L_1, L_1'⟩, ⟨X_1, X_1'⟩, hB_1⟩
  clear Va Va' La La' hb1
  have hz_1 : w.heap.size ≤ v1.heap.size := hB_1.size
  have hl_V_1 := isRow.lt V_1
  have ne_V_1_0 : ¬ w.heap.size + 1 = v1.heap.size := by omega
  have en_V_1_0 : ¬ v1.heap.size = w.heap.size + 1 := by omega
  have hl_L_1 := isRow.lt L_1
  have ne_L_1_0 : ¬ w.heap.size = v1.heap.size := by omega
  have en_L_1_0 : ¬ v1.heap.size = w.heap.size := by omega
  have hl_X_1 := isRow.lt X_1
  have ne_X_1_0 : ¬ v0.heap.size = v1.heap.size := by omega
  have en_X_1_0 : ¬ v1.heap.size = v0.heap.size := by omega
  have hO : SOk 2 (ex0 (List.replicate 2 z54) 0 0 0) := ex_ok _ _ _ _ rfl (rep_st 2) (by omega) (by omega)
  refine (vload_c 2 (w.heap.size + 1) w.heap.size (ex0 (List.replicate 2 z54) 0 0 0) hO n2 v1 L_1 L_1' (some ⟨v0.heap.size, 0, none⟩) 1 [exL] (fa_kd X_1 X_1' (by decide)) (by decide) (fun ad e _ => by
    obtain rfl := Option.some.inj e
    exact ⟨X_1.lt, n3⟩) V_1 V_1').mono ?_
  rw [ex_loadN]
  unfold loadS
  rw [ex_loadXs]
  rintro e v2 ⟨rfl, ⟨V_2, V_2'⟩, ⟨L_2, L_2'⟩, hA2⟩
  have hB_2 : Below w.heap.size w v2 := hA2.below hB_1 (by omega) (Nat.le_refl _) hB_1.size
  go_wp2_with fail
  have hO2 : SOk 2 (ex0 [exL, z54] 0 0 0) := ex_ok _ _ _ _ rfl (fun k hk => by
    have hk' : k < 2 := hk
    rcases (show k = 0 ∨ k = 1 by omega) with rfl | rfl <;> decide) (by omega) (by omega)
  refine (vdo_c 2 (w.heap.size + 1) w.heap.size (ex0 [exL, z54] 0 0 0) hO2 n2 v2 L_2 L_2' V_2 V_2' 2 false 0).mono ?_
  rw [ex1]
  rintro e v3 ⟨rfl, ⟨V_3, V_3'⟩, ⟨L_3, L_3'⟩, hA3⟩
  have hB_3 : Below w.heap.size w v3 := hA3.below hB_2 (by omega) (Nat.le_refl _) hB_2.size
  clear hA2 hA3 V_2 V_2' L_2 L_2' V_1 V_1' L_1 L_1' X_1 X_1' hB_1 hB_2 hO hO2
  unfold vrow ex0 at V_3'
  replace L_3' : rowAt v3 w.heap.size = #[.int .i64 2, .int .i64 40, .int .i64 160, .int .i64 1, .bool false, .int .i64 0, .bool false, .int .i64 0, .int .i64 0, .int .i64 0, .int .i64 0, .bool false, .int .i64 0, .bool false] := L_3'
  have l3 := V_3.lt
  have n7 : ¬ w.heap.size + 1 = v3.heap.size := by omega
  have n8 : ¬ v3.heap.size = w.heap.size + 1 := by omega
  have n9 : ¬ w.heap.size = v3.heap.size := by omega
  have n10 : ¬ v3.heap.size = w.heap.size := by omega
  have n11 : w.heap.size ≤ v3.heap.size := hB_3.size
  go_wp2_with fail
  refine (Misr_c (w.heap.size + 1) w.heap.size 248 0 0 false true false 0 1048576 2 [exA, z54] rfl (by omega) 0 n2 _ ⟨by go_simp, by go_simp⟩ (show Row _ w.heap.size #[.int .i64 2, .int .i64 40, .int .i64 160, .int .i64 1, .bool false, .int .i64 0, .bool false, .int .i64 0, .int .i64 0, .int .i64 0, .int .i64 0, .bool false, .int .i64 0, .bool false] from ⟨by go_simp, by go_simp⟩)).mono ?_
  rw [ex2]
  rintro e v4 ⟨rfl, hb4⟩
  obtain ⟨V_4, V_4'⟩ : Row v4 (w.heap.size + 1) (vrow 2 w.heap.size (ex0 [exA, z54] 0 1048576 0)) := show Row v4 (w.heap.size + 1) #[.int .i64 248, .int .i64 0, .int .i64 0, .bool false, .bool true, .bool false, .int .u32 0, .int .u32 1048576, .slice (some ⟨w.heap.size, 0, none⟩) 2 2, .int .i64 0] from Row.step (by go_simp) (by go_simp) hb4
  obtain ⟨L_4, L_4'⟩ : Row v4 w.heap.size (FA [exA, z54]) := show Row v4 w.heap.size #[.int .i64 2, .int .i64 40, .int .i64 160, .int .i64 1, .bool false, .int .i64 0, .bool false, .int .i64 0, .int .i64 0, .int .i64 0, .int .i64 0, .bool false, .int .i64 0, .bool false] from Row.step (by go_simp) (by go_simp) hb4
  have hB_4 : Below w.heap.size w v4 := bk (by go_simp) (by first | (go_simp; done) | (go_simp; omega)) hb4
  clear hb4 V_3 V_3' L_3 L_3' hB_3
  go_wp2_with fail
  refine (exdo 2 (w.heap.size + 1) w.heap.size (ex0 [exA, z54] 0 1048576 0) ex3s exA_ok n2 4 true 40 0 true (-1) true rfl ex3 _ L_4 L_4' V_4 V_4').mono ?_
  rintro e v1 ⟨rfl, ⟨V_1, V_1'⟩, ⟨L_1, L_1'⟩, hA1⟩
  have hB_1 : Below w.heap.size w v1 := hA1.below (by go_simp) (by first | omega | (go_simp; done) | (go_simp; omega)) (by first | omega | (go_simp; done) | (go_simp; omega)) (by first | (go_simp; done) | (go_simp; omega) | exact Below.size (by assumption))
  clear V_4 V_4' L_4 L_4' hB_4 hA1
  have hz_1 : w.heap.size ≤ v1.heap.size := hB_1.size
  have hl_V_1 := isRow.lt V_1
  have ne_V_1_0 : ¬ w.heap.size + 1 = v1.heap.size := by omega
  have en_V_1_0 : ¬ v1.heap.size = w.heap.size + 1 := by omega
  have ne_V_1_1 : ¬ w.heap.size + 1 = v1.heap.size + 1 := by omega
  have en_V_1_1 : ¬ v1.heap.size + 1 = w.heap.size + 1 := by omega
  have hl_L_1 := isRow.lt L_1
  have ne_L_1_0 : ¬ w.heap.size = v1.heap.size := by omega
  have en_L_1_0 : ¬ v1.heap.size = w.heap.size := by omega
  have ne_L_1_1 : ¬ w.heap.size = v1.heap.size + 1 := by omega
  have en_L_1_1 : ¬ v1.heap.size + 1 = w.heap.size := by omega
  have ne_V_X : ¬ w.heap.size + 1 = v1.heap.size := by omega
  have en_V_X : ¬ v1.heap.size = w.heap.size + 1 := by omega
  have ne_L_X : ¬ w.heap.size = v1.heap.size := by omega
  have en_L_X : ¬ v1.heap.size = w.heap.size := by omega
  go_wp2_with fail
  refine (exdo 2 (w.heap.size + 1) w.heap.size ex3s ex4s ex3_ok n2 2 false 0 1023 false (-1) true rfl ex4 _ (by go_simp) (by go_simp) (by go_simp) (by go_simp)).mono ?_
  rintro e v2 ⟨rfl, ⟨V_2, V_2'⟩, ⟨L_2, L_2'⟩, hA2⟩
  obtain ⟨X_2, X_2'⟩ : Row v2 v1.heap.size #[.bool true, .int .i64 (-1)] := hA2.row ⟨by go_simp, by go_simp⟩ (by omega) (by omega)
  have hB_2 : Below w.heap.size w v2 := hA2.below (by go_simp) (by first | omega | (go_simp; done) | (go_simp; omega)) (by first | omega | (go_simp; done) | (go_simp; omega)) (by first | (go_simp; done) | (go_simp; omega) | exact Below.size (by assumption))
  clear V_1 V_1' L_1 L_1' hB_1 hA2
  have hz_2 : w.heap.size ≤ v2.heap.size := hB_2.size
  have hl_V_2 := isRow.lt V_2
  have ne_V_2_0 : ¬ w.heap.size + 1 = v2.heap.size := by omega
  have en_V_2_0 : ¬ v2.heap.size = w.heap.size + 1 := by omega
  have ne_V_2_1 : ¬ w.heap.size + 1 = v2.heap.size + 1 := by omega
  have en_V_2_1 : ¬ v2.heap.size + 1 = w.heap.size + 1 := by omega
  have hl_L_2 := isRow.lt L_2
  have ne_L_2_0 : ¬ w.heap.size = v2.heap.size := by omega
  have en_L_2_0 : ¬ v2.heap.size = w.heap.size := by omega
  have ne_L_2_1 : ¬ w.heap.size = v2.heap.size + 1 := by omega
  have en_L_2_1 : ¬ v2.heap.size + 1 = w.heap.size := by omega
  have hl_X_2 := isRow.lt X_2
  have ne_X_2_0 : ¬ v1.heap.size = v2.heap.size := by omega
  have en_X_2_0 : ¬ v2.heap.size = v1.heap.size := by omega
  have ne_X_2_1 : ¬ v1.heap.size = v2.heap.size + 1 := by omega
  have en_X_2_1 : ¬ v2.heap.size + 1 = v1.heap.size := by omega
  go_wp2_with fail
  refine (exdo 2 (w.heap.size + 1) w.heap.size ex4s ex5s ex4_ok n2 4 true 50 0 false (-1) true rfl ex5 _ (by go_simp) (by go_simp) (by go_simp) (by go_simp)).mono ?_
  rintro e v3 ⟨rfl, ⟨V_3, V_3'⟩, ⟨L_3, L_3'⟩, hA3⟩
  obtain ⟨X_3, X_3'⟩ : Row v3 v1.heap.size #[.bool true, .int .i64 (-1)] := hA3.row ⟨by go_simp, by go_simp⟩ (by omega) (by omega)
  have hB_3 : Below w.heap.size w v3 := hA3.below (by go_simp) (by first | omega | (go_simp; done) | (go_simp; omega)) (by first | omega | (go_simp; done) | (go_simp; omega)) (by first | (go_simp; done) | (go_simp; omega) | exact Below.size (by assumption))
  clear V_2 V_2' L_2 L_2' X_2 X_2' hB_2 hA3
  have hz_3 : w.heap.size ≤ v3.heap.size := hB_3.size
  have hl_V_3 := isRow.lt V_3
  have ne_V_3_0 : ¬ w.heap.size + 1 = v3.heap.size := by omega
  have en_V_3_0 : ¬ v3.heap.size = w.heap.size + 1 := by omega
  have ne_V_3_1 : ¬ w.heap.size + 1 = v3.heap.size + 1 := by omega
  have en_V_3_1 : ¬ v3.heap.size + 1 = w.heap.size + 1 := by omega
  have hl_L_3 := isRow.lt L_3
  have ne_L_3_0 : ¬ w.heap.size = v3.heap.size := by omega
  have en_L_3_0 : ¬ v3.heap.size = w.heap.size := by omega
  have ne_L_3_1 : ¬ w.heap.size = v3.heap.size + 1 := by omega
  have en_L_3_1 : ¬ v3.heap.size + 1 = w.heap.size := by omega
  have hl_X_3 := isRow.lt X_3
  have ne_X_3_0 : ¬ v1.heap.size = v3.heap.size := by omega
  have en_X_3_0 : ¬ v3.heap.size = v1.heap.size := by omega
  have ne_X_3_1 : ¬ v1.heap.size = v3.heap.size + 1 := by omega
  have en_X_3_1 : ¬ v3.heap.size + 1 = v1.heap.size := by omega
  go_wp2
  go_ret
  exact ⟨rfl, by go_simp⟩
end Go.Proofs.Ytkbaghblchlcnaa.Lr
namespace Go.Proofs.Ytkbaghblchlcnaa.Lr
open Go.RowKit Go.Shelf Go.Proofs.YtkbaghblchlcnaaW.PrintWords Go.Proofs.Ytkbaghblchlcnaa.IAll
theorem ScOk.below {w w' : World} {B : Option Addr} {xs : List VA} (h : ScOk w B xs) (hb : Below w.heap.size w w') : ScOk w' B xs := ⟨Kd.C_below h.C hb, h.big, h.x0, h.x1, h.len⟩
end Go.Proofs.Ytkbaghblchlcnaa.Lr
namespace Go.Proofs.Ytkbaghblchlcnaa.Lr
open Go.RowKit Go.Shelf Go.Proofs.YtkbaghblchlcnaaW.PrintWords Go.Proofs.Ytkbaghblchlcnaa.IAll
def Uq (xs : List S54) : Prop := ∀ i j : Nat, i < xs.length → j < xs.length → (rd_T54 xs i).f0 ≠ 0 → (rd_T54 xs j).f0 ≠ 0 → (rd_T54 xs i).f1 = (rd_T54 xs j).f1 → i = j
def okN (x : S54) : Prop := 0 ≤ x.f1 ∧ x.f1 < 16384 ∧ (x.f1 < 1020 ∨ 8192 ≤ x.f1) ∧ 0 ≤ x.f2 ∧ x.f2 ≤ 255 ∧ (x.f3 = 0 ∨ x.f3 = 1) ∧ x.f2 % 8 = 0 ∧ (x.f1 < 8192 ∨ x.f0 < 2)
structure Gd (xs : List S54) : Prop where
  uq : Uq xs
  ok : ∀ k : Nat, k < xs.length → (rd_T54 xs k).f0 ≠ 0 → okN (rd_T54 xs k)
theorem rd_setSt (xs : List S54) (k : Nat) (st : Int) (j : Nat) (hj : j < xs.length) : rd_T54 (setSt xs k st) j = if j = k then { rd_T54 xs k with f0 := st } else rd_T54 xs j := rd_set xs k j _ hj
theorem gd_setSt {xs : List S54} (h : Gd xs) (k : Nat) (st : Int) (h0 : st ≠ 0 → (rd_T54 xs k).f0 ≠ 0) (h1 : (rd_T54 xs k).f1 < 8192 ∨ st < 2) : Gd (setSt xs k st) := by
  refine ⟨fun i j hi hj n1 n2 e => ?_, fun j hj n => ?_⟩
  · rw [setSt_length] at hi hj
    have key : ∀ i : Nat, i < xs.length → (rd_T54 (setSt xs k st) i).f0 ≠ 0 → (rd_T54 xs i).f0 ≠ 0 ∧ (rd_T54 (setSt xs k st) i).f1 = (rd_T54 xs i).f1 := fun i hi n => by
      rw [rd_setSt xs k st i hi] at n ⊢
      by_cases hk : i = k
      · rw [if_pos hk] at n ⊢; subst hk; exact ⟨h0 n, rfl⟩
      · rw [if_neg hk] at n ⊢; exact ⟨n, rfl⟩
    obtain ⟨a1, a2⟩ := key i hi n1
    obtain ⟨b1, b2⟩ := key j hj n2
    exact h.uq i j hi hj a1 b1 (by rw [← a2, ← b2]; exact e)
  · rw [setSt_length] at hj
    rw [rd_setSt xs k st j hj] at n ⊢
    by_cases hk : j = k
    · rw [if_pos hk] at n ⊢
      subst hk
      obtain ⟨q1, q2, q3, q4, q5, q6, q7, q8⟩ := h.ok j hj (h0 n)
      exact ⟨q1, q2, q3, q4, q5, q6, q7, h1⟩
    · rw [if_neg hk] at n ⊢
      exact h.ok j hj n
theorem gd_good {ls : List S54} (h : goodL ls) : Gd ls := by
  have hok : ∀ k : Nat, k < ls.length → okS (rd_T54 ls k) := fun k hk => Classical.not_not.1 fun hn => h ⟨k, hk, .inl hn⟩
  have hcl : ∀ i j : Nat, i < ls.length → j < i → ¬ clash (rd_T54 ls i) (rd_T54 ls j) := fun i j hi hj hc => h ⟨i, hi, .inr ⟨j, hj, hc⟩⟩
  refine ⟨fun i j hi hj n1 n2 e => ?_, fun k hk _ => ?_⟩
  · rcases Nat.lt_trichotomy i j with q | q | q
    · exact absurd ⟨n2, n1, e.symm⟩ (hcl j i hj q)
    · exact q
    · exact absurd ⟨n1, n2, e⟩ (hcl i j hi q)
  · have q := hok k hk
    unfold okS ok at q
    unfold okN
    obtain ⟨⟨a1, a2, a3, a4, a5, a6, a7⟩, ⟨b1, b2, b3, b4, b5⟩, c, d⟩ := q
    exact ⟨a3, a4, d, a5, a6, a7, b5, c.imp id And.left⟩
theorem rep_f0 (n k : Nat) : (rd_T54 (List.replicate n z54) k).f0 = 0 := by
  unfold rd_T54
  rw [List.getD_eq_getElem?_getD, List.getElem?_replicate]; split <;> rfl
theorem gd_rep (n : Nat) : Gd (List.replicate n z54) := ⟨fun i _ _ _ n1 => absurd (rep_f0 n i) n1, fun k _ n1 => absurd (rep_f0 n k) n1⟩
theorem gd_tgt {ls : List S54} (h : Gd ls) (n : Nat) : Gd (tgt ls n) := by
  unfold tgt
  have key : ∀ i : Nat, i < (ls ++ List.replicate (n - ls.length) z54).length → (rd_T54 (ls ++ List.replicate (n - ls.length) z54) i).f0 ≠ 0 → i < ls.length ∧ rd_T54 (ls ++ List.replicate (n - ls.length) z54) i = rd_T54 ls i := fun i _ n1 => by
    rcases Nat.lt_or_ge i ls.length with q | q
    · exact ⟨q, rd_app_lo _ _ i q⟩
    · rw [rd_app_hi _ _ i q] at n1; exact absurd (rep_f0 _ _) n1
  refine ⟨fun i j hi hj n1 n2 e => ?_, fun k hk n1 => ?_⟩
  · obtain ⟨a1, a2⟩ := key i hi n1
    obtain ⟨b1, b2⟩ := key j hj n2
    rw [a2] at n1 e; rw [b2] at n2 e
    exact h.uq i j a1 b1 n1 n2 e
  · obtain ⟨a1, a2⟩ := key k hk n1
    rw [a2] at n1 ⊢
    exact h.ok k a1 n1
theorem find_eq {xs : List S54} (h : Uq xs) {k : Nat} {id : Int} (hk : k < xs.length) (h0 : (rd_T54 xs k).f0 ≠ 0) (h1 : (rd_T54 xs k).f1 = id) : findOf xs id = (k : Int) := by
  refine find_first xs id k hk (by unfold pFind; simp [h0, h1]) fun j hj hp => ?_
  unfold pFind at hp
  simp only [Bool.and_eq_true, bne_iff_ne, ne_eq, beq_iff_eq] at hp
  have := h j k (by omega) hk hp.1 h0 (hp.2.trans h1.symm)
  omega
theorem find_no {xs : List S54} {id : Int} (h : ∀ k : Nat, k < xs.length → (rd_T54 xs k).f0 ≠ 0 → (rd_T54 xs k).f1 ≠ id) : findOf xs id = -1 :=
  find_none xs id fun j hj hp => by
    unfold pFind at hp
    simp only [Bool.and_eq_true, bne_iff_ne, ne_eq, beq_iff_eq] at hp
    exact h j hj hp.1 hp.2
/-- where the best one stands -/
theorem best_at {xs : List S54} (h : Uq xs) (hi : (best xs).is = true) : ∃ k : Nat, findOf xs (best xs).id = (k : Int) ∧ k < xs.length ∧ (rd_T54 xs k).f0 = 1 ∧ (rd_T54 xs k).f1 = (best xs).id ∧ (rd_T54 xs k).f2 = (best xs).pr ∧ (rd_T54 xs k).f3 = (best xs).gr := by
  obtain ⟨x, hx, e⟩ := best_mem xs _ hi
  obtain ⟨h0, h1, h2⟩ := pl_mem pWaits xs xs.length x hx
  obtain ⟨q, rfl⟩ := Int.eq_ofNat_of_zero_le h0
  have hb : best xs = _ := e
  have hq : (rd_T54 xs q).f0 = 1 := by unfold pWaits at h2; simpa using h2
  have hqn : q < xs.length := by omega
  refine ⟨q, find_eq h hqn (by rw [hq]; decide) (by rw [hb]), hqn, hq, by rw [hb], by rw [hb], by rw [hb]⟩
theorem gd_ack (m p0 p1 : Int) (o0 o1 : Bool) (a b : Int) {xs : List S54} (gp : Int) (h : Gd xs) : Gd (ackXs m p0 p1 o0 o1 a b xs gp) := by
  unfold ackXs
  split
  · rename_i ht
    obtain ⟨k, hf, hk, q0, q1, q2, q3⟩ := best_at h.uq (ackT_is m p0 p1 o0 o1 a b xs gp ht)
    rw [hf, Int.toNat_natCast]
    refine gd_setSt h k _ (fun _ => by rw [q0]; decide) ?_
    split
    · exact .inr (by decide)
    · exact .inl (by omega)
  · exact h
theorem gd_end {xs : List S54} (id : Int) (h : Gd xs) (hst : stOk xs) : Gd (endXs xs id) := by
  unfold endXs
  split
  · rename_i hok
    unfold endOk at hok
    simp only [Bool.and_eq_true, decide_eq_true_eq] at hok
    rcases find_range xs id with hf | ⟨k, hf, hk, hk0, -⟩
    · omega
    · rw [hf] at hok ⊢
      rw [Int.toNat_natCast]
      have hs := hst k hk
      have hn := (h.ok k hk hk0).2.2.2.2.2.2.2
      refine gd_setSt h k _ (fun _ => hk0) ?_
      rcases hn with q | q
      · exact .inl q
      · exact .inr (by omega)
  · exact h
theorem gd_g {xs : List S54} (id : Int) (go : Bool) (h : Gd xs) (hst : stOk xs) : Gd (gXs id xs go) := by
  unfold gXs; split
  · exact gd_end id h hst
  · exact h
theorem gd_do {s : VS} (h : Gd s.xs) (hst : stOk s.xs) (r : Int) (wr : Bool) (x : Int) : Gd (doV s r wr x).1.xs := by
  unfold doV
  split
  · split
    · exact gd_ack _ _ _ _ _ _ _ _ h
    · split
      · exact gd_ack _ _ _ _ _ _ _ _ h
      · split
        · exact h
        · split <;> exact h
  · split
    · exact gd_g _ _ h hst
    · split
      · exact gd_g _ _ h hst
      · split
        · exact gd_g _ _ h hst
        · exact h
theorem gd_act (n : Nat) {s : VS} (h : Gd s.xs) (hst : stOk s.xs) (d : Int) (ls : List S54) (r : Int) (wr : Bool) (x : Int) : Gd (actS n s d ls r wr x).xs := by
  unfold actS
  split
  · unfold loadS loadXs
    dsimp only
    split
    · exact h
    · split
      · rename_i hg
        exact gd_tgt (gd_good hg) n
      · exact h
  · split
    · exact gd_rep n
    · split
      · exact gd_do h hst r wr x
      · exact h
theorem runA_gd (n : Nat) (s : VS) (xs : List VA) (h : SOk n s) (h0 : s.lost = 0) (hx : xs.length ≤ 140737488351232) (hg : Gd s.xs) : ∀ k : Nat, k ≤ xs.length → Gd (runA n s xs k).xs
  | 0, _ => by rw [runA_zero]; exact hg
  | k + 1, hk => by
    have q := runA_gd n s xs h h0 hx hg k (by omega)
    obtain ⟨q1, q2⟩ := runA_ok n s xs h h0 hx k (by omega)
    rw [runA_succ n s xs k (by omega)]
    exact gd_act n q q1.st _ _ _ _ _
end Go.Proofs.Ytkbaghblchlcnaa.Lr
namespace Go.Proofs.Ytkbaghblchlcnaa
theorem rb_even (a b : Int) (k : Nat) : rb a b (2 * k) = tb a k := by rw [rb, if_pos (by omega), show 2 * k / 2 = k by omega]
theorem rb_odd (a b : Int) (k : Nat) : rb a b (2 * k + 1) = tb b k := by rw [rb, if_neg (by omega), show (2 * k + 1) / 2 = k by omega]
theorem least (f : Nat → Bool) (N : Nat) : (∀ i, i < N → f i = false) ∨ ∃ n, n < N ∧ f n = true ∧ ∀ i, i < n → f i = false := by
  induction N with
  | zero => exact .inl (by omega)
  | succ N ih =>
    rcases ih with h | ⟨n, h1, h2, h3⟩
    · cases hf : f N
      · exact .inl fun i hi => by rcases Nat.lt_or_ge i N with h' | h'
                                  · exact h i h'
                                  · rw [show i = N by omega]; exact hf
      · exact .inr ⟨N, by omega, hf, h⟩
    · exact .inr ⟨n, by omega, h2, h3⟩
theorem allUpto_nil (a b : Int) (n : Nat) (h : ∀ i, i < n → rb a b i = false) : allUpto a b n = [] := by
  induction n with
  | zero => rfl
  | succ n ih => rw [allUpto, ih (fun i hi => h i (by omega)), cell, h n (by omega)]; rfl
/-- the first place that stands -/
theorem allL_first (a b : Int) (n : Nat) (hn : n < 64) (h : rb a b n = true) (hl : ∀ i, i < n → rb a b i = false) :
    ∃ post, allL a b = ((8 * (n / 2 : Nat) : Int), ((n % 2 : Nat) : Int)) :: post := by
  obtain ⟨post, hp⟩ := allL_at a b n hn h
  exact ⟨post, by rw [hp, allUpto_nil a b n hl]; rfl⟩
theorem top_first (a b : Int) (n : Nat) (hn : n < 64) (h : rb a b n = true) (hl : ∀ i, i < n → rb a b i = false) : top a b = ((8 * (n / 2 : Nat) : Int), ((n % 2 : Nat) : Int)) := by
  obtain ⟨post, hp⟩ := allL_first a b n hn h hl
  rw [top, hp]; rfl
theorem drop_first (a b : Int) (n : Nat) (hn : n < 64) (h : rb a b n = true) (hl : ∀ i, i < n → rb a b i = false) :
    dropA a b = (if n % 2 = 0 then bits .andNot .u32 a (2 ^ (n / 2)) else a) ∧ dropB a b = (if n % 2 = 0 then b else bits .andNot .u32 b (2 ^ (n / 2))) ∧ some? a b = true := by
  obtain ⟨post, hp⟩ := allL_first a b n hn h hl
  have e : ((8 * ((n / 2 : Nat) : Int)) / 8).toNat = n / 2 := by omega
  refine ⟨?_, ?_, ?_⟩
  · rw [dropA, hp]; simp only [e]
    by_cases h2 : n % 2 = 0
    · rw [if_pos h2, if_pos (by omega)]
    · rw [if_neg h2, if_neg (by omega)]
  · rw [dropB, hp]; simp only [e]
    by_cases h2 : n % 2 = 0
    · rw [if_pos h2, if_pos (by omega)]
    · rw [if_neg h2, if_neg (by omega)]
  · rw [some?, hp]; rfl
theorem drop_none (a b : Int) (hl : ∀ i, i < 64 → rb a b i = false) : dropA a b = a ∧ dropB a b = b ∧ some? a b = false := by
  have h : allL a b = [] := by rw [allL, allUpto_nil a b 64 hl]
  refine ⟨?_, ?_, ?_⟩
  · rw [dropA, h]
  · rw [dropB, h]
  · rw [some?, h]; rfl
/-- a word of 32 bits -/
abbrev W32 (x : Int) : Prop := 0 ≤ x ∧ x ≤ 4294967295
theorem w32_bits (op : BinOp) (x y : Int) : W32 (bits op .u32 x y) := bits_u32_in op x y
/-- letting the first go: the bits behind it -/
theorem drop_bits (a b : Int) (n : Nat) (hn : n < 64) (h : rb a b n = true) (hl : ∀ i, i < n → rb a b i = false) (i : Nat) (hi : i < 64) :
    rb (dropA a b) (dropB a b) i = (rb a b i && decide (i ≠ n)) := by
  obtain ⟨h1, h2, -⟩ := drop_first a b n hn h hl
  rw [h1, h2]
  clear h1 h2 h hl
  have hi2 : i / 2 < 32 := by omega
  unfold rb
  by_cases hp : i % 2 = 0
  · rw [if_pos hp, if_pos hp]
    by_cases hq : n % 2 = 0
    · rw [if_pos hq, tb_andNot_w _ _ _ hi2, tb_two_pow]
      by_cases e : i = n
      · rw [decide_eq_true (show n / 2 = i / 2 by omega), decide_eq_false (show ¬ i ≠ n by omega)]; rfl
      · rw [decide_eq_false (show ¬ n / 2 = i / 2 by omega), decide_eq_true (show i ≠ n from e)]; rfl
    · rw [if_neg hq, decide_eq_true (show i ≠ n by omega), Bool.and_true]
  · rw [if_neg hp, if_neg hp]
    by_cases hq : n % 2 = 0
    · rw [if_pos hq, decide_eq_true (show i ≠ n by omega), Bool.and_true]
    · rw [if_neg hq, tb_andNot_w _ _ _ hi2, tb_two_pow]
      by_cases e : i = n
      · rw [decide_eq_true (show n / 2 = i / 2 by omega), decide_eq_false (show ¬ i ≠ n by omega)]; rfl
      · rw [decide_eq_false (show ¬ n / 2 = i / 2 by omega), decide_eq_true (show i ≠ n from e)]; rfl
theorem drop_w32 (a b : Int) (ha : W32 a) (hb : W32 b) : W32 (dropA a b) ∧ W32 (dropB a b) := by
  rcases least (rb a b) 64 with h | ⟨n, h1, h2, h3⟩
  · obtain ⟨e1, e2, -⟩ := drop_none a b h; rw [e1, e2]; exact ⟨ha, hb⟩
  · obtain ⟨e1, e2, -⟩ := drop_first a b n h1 h2 h3
    rw [e1, e2]
    constructor
    · split
      · exact w32_bits _ _ _
      · exact ha
    · split
      · exact hb
      · exact w32_bits _ _ _
/-- pushing and clearing: the bits -/
theorem push_bits (a b g p : Int) (i : Nat) (hi : i < 64) : rb (setA .or a g p) (setB .or b g p) i = (rb a b i || decide (i = 2 * pl p + (g % 2).toNat)) := by
  unfold setA setB rb
  rcases mod2 g with hg | hg <;> rcases Nat.mod_two_eq_zero_or_one i with h | h <;> simp only [hg, h, if_true, if_false, show ¬ ((1 : Int) = 0) by omega, show ¬ (1 = 0) by omega]
  · rw [tb_or_w _ _ _ (by omega), tb_two_pow]; congr 1; rw [Bool.eq_iff_iff]; simp; omega
  · rw [decide_eq_false (show ¬ (i = 2 * pl p + (0 : Int).toNat) by simp; omega)]; simp
  · rw [decide_eq_false (show ¬ (i = 2 * pl p + (1 : Int).toNat) by simp; omega)]; simp
  · rw [tb_or_w _ _ _ (by omega), tb_two_pow]; congr 1; rw [Bool.eq_iff_iff]; simp; omega
theorem set_w32 (op : BinOp) (a b g p : Int) (ha : W32 a) (hb : W32 b) : W32 (setA op a g p) ∧ W32 (setB op b g p) := by
  unfold setA setB
  rcases mod2 g with hg | hg <;> simp only [hg, if_true, if_false, show ¬ ((1 : Int) = 0) by omega]
  · exact ⟨w32_bits _ _ _, hb⟩
  · exact ⟨ha, w32_bits _ _ _⟩
/-- a ladder is its bits -/
theorem rb_ext (a b a' b' : Int) (ha : W32 a) (hb : W32 b) (ha' : W32 a') (hb' : W32 b') (h : ∀ i, i < 64 → rb a b i = rb a' b' i) : a = a' ∧ b = b' := by
  refine ⟨ext_u32 ha ha' fun k hk => ?_, ext_u32 hb hb' fun k hk => ?_⟩
  · have := h (2 * k) (by omega); rwa [rb_even, rb_even] at this
  · have := h (2 * k + 1) (by omega); rwa [rb_odd, rb_odd] at this
end Go.Proofs.Ytkbaghblchlcnaa
namespace Go.Proofs.Ytkbaghblchlcnaa
theorem back_pure (a b g lv : Int) (k : Nat) (hk : k < 32) (hlv : lv = 8 * (k : Int)) (ha : W32 a) (hb : W32 b) (h : lv < (top a b).1) :
    top (setA .or a g lv) (setB .or b g lv) = (lv, g % 2) ∧ dropA (setA .or a g lv) (setB .or b g lv) = a ∧ dropB (setA .or a g lv) (setB .or b g lv) = b := by
  have hpl : pl lv = k := by unfold pl; omega
  have hlow : ∀ i, i ≤ 2 * pl lv + (g % 2).toNat → rb a b i = false := by
    rcases least (rb a b) 64 with hn | ⟨n, h1, h2, h3⟩
    · intro i hi; exact hn i (by omega)
    · rw [top_first a b n h1 h2 h3] at h
      intro i hi
      exact h3 i (by simp only at h; omega)
  have hm := push_bits a b g lv
  obtain ⟨wa, wb⟩ := set_w32 .or a b g lv ha hb
  have hn64 : 2 * pl lv + (g % 2).toNat < 64 := by omega
  have hat : rb (setA .or a g lv) (setB .or b g lv) (2 * pl lv + (g % 2).toNat) = true := by rw [hm _ hn64]; simp
  have hbel : ∀ i, i < 2 * pl lv + (g % 2).toNat → rb (setA .or a g lv) (setB .or b g lv) i = false := by
    intro i hi
    rw [hm _ (by omega), hlow i (by omega), decide_eq_false (by omega)]; rfl
  have htop := top_first _ _ _ hn64 hat hbel
  have hdrop := drop_bits _ _ _ hn64 hat hbel
  obtain ⟨da, db⟩ := drop_w32 _ _ wa wb
  have hback := rb_ext _ _ a b da db ha hb (fun i hi => by
    rw [hdrop i hi, hm i hi]
    by_cases e : i = 2 * pl lv + (g % 2).toNat
    · rw [decide_eq_false (show ¬ i ≠ _ by omega), e, hlow _ (Nat.le_refl _)]; simp
    · rw [decide_eq_true (show i ≠ _ from e), decide_eq_false e]; simp)
  refine ⟨?_, hback.1, hback.2⟩
  rw [htop]
  refine Prod.ext ?_ ?_
  · show (8 * ((2 * pl lv + (g % 2).toNat) / 2 : Nat) : Int) = lv
    omega
  · show (((2 * pl lv + (g % 2).toNat) % 2 : Nat) : Int) = g % 2
    omega
end Go.Proofs.Ytkbaghblchlcnaa
namespace Go.Proofs.Ytkbaghblchlcnaa
theorem and_mask (j : Nat) (hj : j ≤ 8) (x : Int) (h0 : 0 ≤ x) (h1 : x < 256) : bits .and .i64 x (256 - 2 ^ j) = x / 2 ^ j * 2 ^ j := by
  have : ∀ (j : Fin 9) (x : Fin 256), bits .and .i64 (x.val : Int) (256 - 2 ^ j.val) = (x.val : Int) / 2 ^ j.val * 2 ^ j.val := by decide +kernel
  have h := this ⟨j, by omega⟩ ⟨x.toNat, by omega⟩
  simp only [Int.toNat_of_nonneg h0] at h
  exact h
theorem or_low7 (k y : Int) (hk : 0 ≤ k) (hk1 : k < 32) (hy : 0 ≤ y) (hy1 : y < 8) : bits .or .i64 (8 * k) y = 8 * k + y := by
  have : ∀ (k : Fin 32) (y : Fin 8), bits .or .i64 (8 * (k.val : Int)) (y.val : Int) = 8 * (k.val : Int) + (y.val : Int) := by decide +kernel
  have h := this ⟨k.toNat, by omega⟩ ⟨y.toNat, by omega⟩
  simp only [Int.toNat_of_nonneg hk, Int.toNat_of_nonneg hy] at h
  exact h
end Go.Proofs.Ytkbaghblchlcnaa
namespace Go.Proofs.Ytkbaghblchlcnaa
theorem lev_is (g pt : Int) (k : Nat) (hk : k < 32) : ∃ q : Nat, q < 32 ∧ bits .and .i64 (8 * (k : Int)) (maskP g pt) = 8 * (q : Int) := by
  have h := fromP_le g pt
  unfold maskP
  generalize fromP g pt = j at *
  rw [and_mask j h.2 _ (by omega) (by omega)]
  have : ∀ (j : Fin 9) (k : Fin 32), ∃ q : Fin 32, (8 * (k.val : Int)) / 2 ^ j.val * 2 ^ j.val = 8 * (q.val : Int) := by decide +kernel
  obtain ⟨q, hq⟩ := this ⟨j, by omega⟩ ⟨k, hk⟩
  exact ⟨q.val, q.isLt, hq⟩
theorem lev_mono (g pt x y : Int) (h0 : 0 ≤ x) (h : x ≤ y) (h1 : y < 256) : bits .and .i64 x (maskP g pt) ≤ bits .and .i64 y (maskP g pt) := by
  have hj := fromP_le g pt
  unfold maskP
  generalize fromP g pt = j at *
  rw [and_mask j hj.2 _ h0 (by omega), and_mask j hj.2 _ (by omega) h1]
  exact Int.mul_le_mul_of_nonneg_right (Int.ediv_le_ediv (Int.pow_pos (by decide)) h) (Int.le_of_lt (Int.pow_pos (by decide)))
end Go.Proofs.Ytkbaghblchlcnaa
namespace Go.Proofs.Ytkbaghblchlcnaa
theorem back_facts (m p0 p1 : Int) (o0 o1 : Bool) (a b pr gr pr2 : Int) (is is2 : Bool) (ha : W32 a) (hb : W32 b) (hm : mayP m p0 p1 o0 o1 a b (pr % 256 / 8 * 8) gr is = true) :
    ∃ lv, levP p0 p1 (pr % 256 / 8 * 8) gr = lv ∧ 0 ≤ lv ∧ lv < 256 ∧ lv / 8 * 8 = lv ∧
      top (setA .or a gr lv) (setB .or b gr lv) = (lv, gr % 2) ∧ mayP m p0 p1 o0 o1 (setA .or a gr lv) (setB .or b gr lv) (pr % 256 / 8 * 8) gr is = false ∧
      mayP m p0 p1 o0 o1 (setA .or a gr lv) (setB .or b gr lv) (bits .or .i64 (pr % 256 / 8 * 8) (bits .and .i64 pr2 7)) gr is2 = false ∧
      dropB' (setA .or a gr lv) (setB .or b gr lv) (gr % 2) = true ∧ dropA (setA .or a gr lv) (setB .or b gr lv) = a ∧ dropB (setA .or a gr lv) (setB .or b gr lv) = b := by
  obtain ⟨k, hk, hk'⟩ : ∃ k : Nat, k < 32 ∧ pr % 256 / 8 * 8 = 8 * (k : Int) := ⟨(pr % 256 / 8).toNat, by omega, by omega⟩
  rw [hk'] at hm ⊢
  obtain ⟨q, hq, hq'⟩ := lev_is (gr % 2) (ptP p0 p1 gr) k hk
  have hlv : levP p0 p1 (8 * (k : Int)) gr = 8 * (q : Int) := hq'
  have hlt : 8 * (q : Int) < (top a b).1 := by
    unfold mayP at hm
    rw [hq'] at hm
    simp only [Bool.and_eq_true, decide_eq_true_eq] at hm
    exact hm.2
  obtain ⟨h1, h2, h3⟩ := back_pure a b gr (8 * (q : Int)) q hq rfl ha hb hlt
  refine ⟨8 * (q : Int), hlv, by omega, by omega, by omega, h1, ?_, ?_, ?_, h2, h3⟩
  · unfold mayP
    rw [h1, hq']
    simp
  · unfold mayP
    rw [h1, and7, or_low7 _ _ (by omega) (by omega) (by omega) (by omega)]
    have := lev_mono (gr % 2) (ptP p0 p1 gr) (8 * (k : Int)) (8 * (k : Int) + pr2 % 8) (by omega) (by omega) (by omega)
    rw [hq'] at this
    rw [decide_eq_false (show ¬ bits .and .i64 (8 * (k : Int) + pr2 % 8) (maskP (gr % 2) (ptP p0 p1 gr)) < 8 * (q : Int) by omega)]
    simp
  · unfold dropB'
    rw [h1]
    simp
    omega
end Go.Proofs.Ytkbaghblchlcnaa
namespace Go.Proofs.Ytkbaghblchlcnaa.Lr
open Go.RowKit Go.Shelf Go.Proofs.YtkbaghblchlcnaaW.PrintWords Go.Proofs.Ytkbaghblchlcnaa.IAll
/-- words of 32 bits stay such -/
structure W2 (s : VS) : Prop where
  a : W32 s.a
  b : W32 s.b
theorem w2_ack {s : VS} (h : W2 s) (gp : Int) : W2 (ackS s gp) := by
  unfold ackS
  refine ⟨?_, ?_⟩
  · show W32 (ackA s.m s.p0 s.p1 s.o0 s.o1 s.a s.b s.xs gp)
    unfold ackA; split
    · exact (set_w32 .or s.a s.b gp _ h.a h.b).1
    · exact h.a
  · show W32 (ackB s.m s.p0 s.p1 s.o0 s.o1 s.a s.b s.xs gp)
    unfold ackB; split
    · exact (set_w32 .or s.a s.b gp _ h.a h.b).2
    · exact h.b
theorem w2_eoi {s : VS} (h : W2 s) (gp id : Int) : W2 (eoiS s gp id) := by
  unfold eoiS
  refine ⟨?_, ?_⟩
  · show W32 (eoiA s.a s.b gp id)
    unfold eoiA; split
    · exact (drop_w32 s.a s.b h.a h.b).1
    · exact h.a
  · show W32 (eoiB s.a s.b gp id)
    unfold eoiB; split
    · exact (drop_w32 s.a s.b h.a h.b).2
    · exact h.b
theorem w2_do {s : VS} (h : W2 s) (r : Int) (wr : Bool) (x : Int) : W2 (doV s r wr x).1 := by
  unfold doV
  split
  · split
    · exact w2_ack h 0
    · split
      · exact w2_ack h 1
      · split
        · exact h
        · split <;> exact h
  · split
    · exact w2_eoi h 0 _
    · split
      · exact w2_eoi h 1 _
      · split
        · exact ⟨h.a, h.b⟩
        · exact ⟨h.a, h.b⟩
theorem w2_act (n : Nat) {s : VS} (h : W2 s) (d : Int) (ls : List S54) (r : Int) (wr : Bool) (x : Int) : W2 (actS n s d ls r wr x) := by
  unfold actS
  split
  · exact ⟨h.a, h.b⟩
  · split
    · exact ⟨h.a, h.b⟩
    · split
      · exact w2_do h r wr x
      · exact h
theorem runA_w2 (n : Nat) (s : VS) (xs : List VA) (h : W2 s) : ∀ k : Nat, k ≤ xs.length → W2 (runA n s xs k)
  | 0, _ => by rw [runA_zero]; exact h
  | k + 1, hk => by
    rw [runA_succ n s xs k (by omega)]
    exact w2_act n (runA_w2 n s xs h k (by omega)) _ _ _ _ _
section
variable {m p0 p1 : Int} {o0 o1 : Bool} {a b : Int} {ys : List S54} {gp : Int}
theorem ends_k (hG : Gd ys) (hT : ackT m p0 p1 o0 o1 a b ys gp = true) : ∃ k : Nat, findOf ys (best ys).id = (k : Int) ∧ k < ys.length ∧ (rd_T54 ys k).f0 = 1 ∧ (rd_T54 ys k).f1 = (best ys).id ∧ okN (rd_T54 ys k) ∧ (rd_T54 ys k).f2 = (best ys).pr := by
  obtain ⟨k, h1, h2, h3, h4, h5, h6⟩ := best_at hG.uq (ackT_is m p0 p1 o0 o1 a b ys gp hT)
  exact ⟨k, h1, h2, h3, h4, hG.ok k h2 (by rw [h3]; decide), h5⟩
theorem ends_lad (wa : W32 a) (wb : W32 b) (hT : ackT m p0 p1 o0 o1 a b ys gp = true) (h0 : 0 ≤ (best ys).pr) (h1 : (best ys).pr ≤ 255) (h8 : (best ys).pr % 8 = 0) (hg : gp = 0 ∨ gp = 1) :
    dropB' (setA .or a gp (levP p0 p1 (best ys).pr gp)) (setB .or b gp (levP p0 p1 (best ys).pr gp)) gp = true ∧ dropA (setA .or a gp (levP p0 p1 (best ys).pr gp)) (setB .or b gp (levP p0 p1 (best ys).pr gp)) = a ∧ dropB (setA .or a gp (levP p0 p1 (best ys).pr gp)) (setB .or b gp (levP p0 p1 (best ys).pr gp)) = b := by
  unfold ackT takeB at hT
  rw [Bool.and_eq_true, beq_iff_eq] at hT
  obtain ⟨hm, hgr⟩ := hT
  rw [hgr] at hm
  have e : (best ys).pr % 256 / 8 * 8 = (best ys).pr := by omega
  rw [← e] at hm
  obtain ⟨lv, hl, -, -, -, -, -, -, q1, q2, q3⟩ := back_facts m p0 p1 o0 o1 a b (best ys).pr gp 0 (best ys).is (best ys).is wa wb hm
  rw [e] at hl
  rw [hl]
  refine ⟨?_, q2, q3⟩
  rw [show gp % 2 = gp by omega] at q1
  exact q1
theorem real_ok {x : S54} (h : okN x) : realC x.f1 = true := by
  obtain ⟨h1, h2, h3, -⟩ := h
  unfold realC
  exact decide_eq_true (by omega)
end
section
variable {xs : List S54} {k : Nat} {id : Int}
theorem find_gone (h : Uq xs) (hk : k < xs.length) (h0 : (rd_T54 xs k).f0 ≠ 0) (h1 : (rd_T54 xs k).f1 = id) : findOf (setSt xs k 0) id = -1 := by
  refine find_no fun j hj n e => ?_
  rw [setSt_length] at hj
  rw [rd_setSt xs k 0 j hj] at n e
  by_cases hjk : j = k
  · rw [if_pos hjk] at n; exact n rfl
  · rw [if_neg hjk] at n e
    exact hjk (h j k hj hk n h0 (e.trans h1.symm))
theorem rd_set_same (st : Int) (hk : k < xs.length) : rd_T54 (setSt xs k st) k = { rd_T54 xs k with f0 := st } := by rw [rd_setSt xs k st k hk, if_pos rfl]
theorem find_set (hG : Gd xs) (hk : k < xs.length) (h0 : (rd_T54 xs k).f0 ≠ 0) (h1 : (rd_T54 xs k).f1 = id) (hlo : id < 8192) : findOf (setSt xs k 2) id = (k : Int) := by
  have hg := gd_setSt hG k 2 (fun _ => h0) (.inl (by omega))
  exact find_eq hg.uq (by rw [setSt_length]; exact hk) (by rw [rd_set_same 2 hk]; exact (by decide : (2 : Int) ≠ 0)) (by rw [rd_set_same 2 hk]; exact h1)
theorem find_gone2 (hG : Gd xs) (hk : k < xs.length) (h0 : (rd_T54 xs k).f0 ≠ 0) (h1 : (rd_T54 xs k).f1 = id) (hlo : id < 8192) : findOf (setSt (setSt xs k 2) k 0) id = -1 := by
  have hg := gd_setSt hG k 2 (fun _ => h0) (.inl (by omega))
  exact find_gone hg.uq (by rw [setSt_length]; exact hk) (by rw [rd_set_same 2 hk]; exact (by decide : (2 : Int) ≠ 0)) (by rw [rd_set_same 2 hk]; exact h1)
theorem end_lo (hk : k < xs.length) (hf : findOf (setSt xs k 2) id = (k : Int)) : endOk (setSt xs k 2) id = true ∧ endM (setSt xs k 2) id = (if (rd_T54 xs k).f4 = true then (rd_T54 xs k).f5 else -1) ∧ endXs (setSt xs k 2) id = setSt (setSt xs k 2) k 0 := by
  have hr := rd_set_same (xs := xs) 2 hk
  have hok : endOk (setSt xs k 2) id = true := by
    unfold endOk
    rw [hf, hr, decide_eq_true (show (0 : Int) ≤ (k : Int) by omega)]; rfl
  refine ⟨hok, ?_, ?_⟩
  · unfold endM
    rw [hok, if_pos rfl, hf, hr]
  · unfold endXs
    rw [hok, if_pos rfl, hf, hr, Int.toNat_natCast]; rfl
theorem end_hi (hf : findOf xs id = -1) (hid : 8192 ≤ id) (lost : Int) : endOk xs id = false ∧ endM xs id = -1 ∧ endXs xs id = xs ∧ endLost xs id lost = lost := by
  have hok : endOk xs id = false := by unfold endOk; rw [hf]; rfl
  refine ⟨hok, ?_, ?_, ?_⟩
  · unfold endM; rw [hok]; rfl
  · unfold endXs; rw [hok]; rfl
  · unfold endLost; rw [hok, if_neg (by decide), if_neg (by omega)]
end
/-- a list's cells in turn -/
theorem fa_rd {xs : List S54} {k : Nat} {x : S54} (hk : k < xs.length) (hx : rd_T54 xs k = x) : (FA xs)[k * 7]? = some (.int .i64 x.f0) ∧ (FA xs)[k * 7 + 1]? = some (.int .i64 x.f1) ∧ (FA xs)[k * 7 + 2]? = some (.int .i64 x.f2) ∧ (FA xs)[k * 7 + 3]? = some (.int .i64 x.f3) ∧ (FA xs)[k * 7 + 4]? = some (.bool x.f4) ∧ (FA xs)[k * 7 + 5]? = some (.int .i64 x.f5) ∧ (FA xs)[k * 7 + 6]? = some (.bool x.f6) := by
  subst hx; exact FA_gets xs k hk
section
variable {xs : List S54} {n bl : Nat} (hn : xs.length = n) (h16 : n ≤ 16) {W : World}
include hn h16
theorem find_n (h : isRow W bl) (h' : rowAt W bl = FA xs) {id r : Int} (hr : findOf xs id = r) : Calls Try.prog 22 #[.slice (some ⟨bl, 0, none⟩) n n, .int .i64 id] W fun e w' => e = .returned (.int .i64 r) ∧ Below W.heap.size W w' := by
  subst hn; subst hr; exact vfind h16 h h' id
end
end Go.Proofs.Ytkbaghblchlcnaa.Lr
namespace Go.Proofs.Ytkbaghblchlcnaa
section
variable {P : Program} {md : Region.Mode} {ops : Array Oper} {Q : Exit → Act → World → Prop} {S : World → Prop} {fuel : Nat} {listed : Array Bool} {a : Act} {w : World}
theorem tk (i : Nat) (oi : Oper) (v : Value) (hy : ∀ w, S w → (execOp a.eval oi).run P w = .ok (.value v) w) (h : wpAnyH P md ops Q S fuel (listed.setIfInBounds i true) (a.put oi.dst v) w)
    (hi : ops[i]? = some oi := by rfl) (hs : Region.noSelect ops = true := by kernel_rfl) (hf : Region.free md ops listed i = true := by kernel_rfl) (hr : (Region.ready md ops listed).contains i = true := by kernel_rfl)
    (hQ : ∀ c a w, Q (.panic c) (a.put oi.dst v) w → Q (.panic c) a w := by exact fun _ _ _ h => h) (hw : Region.wanted oi (yielded ops a.tmps) = true := by rfl) (hS : S w := by assumption) : wpAnyH P md ops Q S (fuel + 1) listed a w :=
  wpAnyH_take hi hs hf hr hQ (.inl ⟨hw, hy⟩) hS h
theorem tu (i : Nat) (oi : Oper) (h : wpAnyH P md ops Q S fuel (listed.setIfInBounds i true) (a.put oi.dst undef) w)
    (hi : ops[i]? = some oi := by rfl) (hs : Region.noSelect ops = true := by kernel_rfl) (hf : Region.free md ops listed i = true := by kernel_rfl) (hr : (Region.ready md ops listed).contains i = true := by kernel_rfl)
    (hQ : ∀ c a w, Q (.panic c) (a.put oi.dst undef) w → Q (.panic c) a w := by exact fun _ _ _ h => h) (hw : Region.wanted oi (yielded ops a.tmps) = false := by rfl) (hS : S w := by assumption) : wpAnyH P md ops Q S (fuel + 1) listed a w :=
  wpAnyH_take hi hs hf hr hQ (.inr ⟨hw, rfl⟩) hS h
end
end Go.Proofs.Ytkbaghblchlcnaa
namespace Go.Proofs.Ytkbaghblchlcnaa
open Go.ChangeShapes Go.WideShapes Go.ChangeAt Go.RowKit
inductive Sh where
  | int (k : IntKind)
  | bool
  | str
  | slice (t : TypeId)
/-- the leaves of a type: where each stands among its cells, and of what make it is -/
def leaves (P : Program) : Nat → TypeId → List (Nat × Sh)
  | 0, _ => []
  | d + 1, t =>
    match P.underlying t with
    | some (.int k) => [(0, .int k)]
    | some .bool => [(0, .bool)]
    | some .string => [(0, .str)]
    | some (.slice _) => [(0, .slice t)]
    | some (.struct fs) => fs.toList.flatMap fun f => (leaves P d f.type).map fun x => (f.offset + x.1, x.2)
    | some (.array n e) => (List.range n).flatMap fun i => (leaves P d e).map fun x => (i * P.cellsOf e + x.1, x.2)
    | _ => []
section
variable {H : Type} {enc : TypeId × Value → H} {P : Program} {w : World} {base : Nat} {spare : Nat → Bool} {held : Bool}
def LeafOk (enc : TypeId × Value → H) (P : Program) (w : World) (base : Nat) (spare : Nat → Bool) (held : Bool) : Sh → Value → Prop
  | .int k, v => ∃ n, v = .int k n ∧ (Lit.int k n).wf = true
  | .bool, v => ∃ b, v = .bool b
  | .str, v => ∃ s : ByteArray, v = .string s ∧ s.size ≤ maxLen
  | .slice t, v => ∃ m x, DataW.trod enc P w base spare held m t [v] = some x
theorem mapM_each {α β : Type} (f : α → Option β) : ∀ (l : List α) (ys : List β), l.mapM f = some ys → ∀ a ∈ l, ∃ y, f a = some y := by
  intro l
  induction l with
  | nil => intro ys _ a ha; cases ha
  | cons b l ih =>
    intro ys h a ha
    rw [List.mapM_cons] at h
    cases hb : f b with
    | none => simp [hb] at h
    | some y =>
      cases hl : l.mapM f with
      | none => simp [hb, hl] at h
      | some zs =>
        rcases List.mem_cons.mp ha with rfl | hm
        · exact ⟨y, hb⟩
        · exact ih zs hl a hm
theorem piece_at {cs : List Value} {o n i : Nat} {v : Value} (h : ((cs.drop o).take n)[i]? = some v) : cs[o + i]? = some v := by
  rw [List.getElem?_take] at h
  split at h
  · rwa [List.getElem?_drop] at h
  · cases h
theorem struct_each {fs : Array Field} {t : TypeId} {m : Nat} {cs : List Value} {x : DataW H × List MemPlace} (hu : P.underlying t = some (.struct fs)) (h : DataW.trod enc P w base spare held (m + 1) t cs = some x) :
    ∃ xs, (fs.toList.mapM fun f => DataW.trod enc P w base spare held m f.type ((cs.drop f.offset).take (P.cellsOf f.type))) = some xs := by
  unfold DataW.trod at h
  rw [hu] at h
  split at h <;> simp_all
  obtain ⟨_, a, ha, _⟩ := h
  exact ⟨a, ha⟩
theorem array_each {e : TypeId} {n : Nat} {t : TypeId} {m : Nat} {cs : List Value} {x : DataW H × List MemPlace} (hu : P.underlying t = some (.array n e)) (h : DataW.trod enc P w base spare held (m + 1) t cs = some x) :
    ∃ xs, ((List.range n).mapM fun i => DataW.trod enc P w base spare held m e ((cs.drop (i * P.cellsOf e)).take (P.cellsOf e))) = some xs := by
  unfold DataW.trod at h
  rw [hu] at h
  split at h <;> simp_all
  obtain ⟨_, a, ha, _⟩ := h
  exact ⟨a, ha⟩
theorem leaf_ok (d : Nat) : ∀ (fuel : Nat) (t : TypeId) (cs : List Value) (x : DataW H × List MemPlace), DataW.trod enc P w base spare held fuel t cs = some x →
    ∀ o s, (o, s) ∈ leaves P d t → ∃ v, cs[o]? = some v ∧ LeafOk enc P w base spare held s v := by
  induction d with
  | zero => intro fuel t cs x _ o s hm; cases hm
  | succ d ih =>
    intro fuel t cs x h o s hm
    cases fuel with
    | zero => simp [DataW.trod] at h
    | succ m =>
      rw [leaves] at hm
      split at hm
      · rename_i k hu
        simp at hm; obtain ⟨rfl, rfl⟩ := hm
        obtain ⟨n, hc, _, hw⟩ := DataW.trod_int hu h
        subst hc
        exact ⟨_, rfl, n, rfl, hw⟩
      · rename_i hu
        simp at hm; obtain ⟨rfl, rfl⟩ := hm
        unfold DataW.trod at h
        rw [hu] at h
        split at h <;> simp_all
        exact ⟨_, rfl⟩
      · rename_i hu
        simp at hm; obtain ⟨rfl, rfl⟩ := hm
        unfold DataW.trod at h
        rw [hu] at h
        split at h <;> simp_all
        exact ⟨_, rfl, h.1⟩
      · rename_i e hu
        simp at hm; obtain ⟨rfl, rfl⟩ := hm
        have h' := h
        unfold DataW.trod at h
        rw [hu] at h
        split at h <;> first | (simp_all; done) | exact ⟨_, rfl, _, _, h'⟩
      · rename_i fs hu
        have hs := struct_each hu h
        obtain ⟨xs, hxs⟩ := hs
        simp only [List.mem_flatMap, List.mem_map] at hm
        obtain ⟨f, hf, ⟨o', s'⟩, hmem, heq⟩ := hm
        simp only [Prod.mk.injEq] at heq
        obtain ⟨rfl, rfl⟩ := heq
        obtain ⟨y, hy⟩ := mapM_each _ _ _ hxs f hf
        obtain ⟨v, hv, hok⟩ := ih m f.type _ y hy o' s' hmem
        exact ⟨v, piece_at hv, hok⟩
      · rename_i n e hu
        have hs := array_each hu h
        obtain ⟨xs, hxs⟩ := hs
        simp only [List.mem_flatMap, List.mem_map] at hm
        obtain ⟨i, hi, ⟨o', s'⟩, hmem, heq⟩ := hm
        simp only [Prod.mk.injEq] at heq
        obtain ⟨rfl, rfl⟩ := heq
        obtain ⟨y, hy⟩ := mapM_each _ _ _ hxs i hi
        obtain ⟨v, hv, hok⟩ := ih m e _ y hy o' s' hmem
        exact ⟨v, piece_at hv, hok⟩
      · cases hm
/-- All arguments read behind a call that leaves alone what lay as they read before. -/
theorem trodAll_back (hl : laidOutB P = true) {W W' : World} (hb : Below W.heap.size W W') : ∀ (ts : List TypeId) (vs : List Value) (ds : List (DataW H)) (ps : List MemPlace),
    (∀ t ∈ ts, P.readableRec t = true ∧ t < P.types.size) → DataW.TrodAll enc P W 0 (fun _ => true) true ts vs ds ps →
    DataW.TrodAll enc P W' 0 (fun b => decide (b < W.heap.size)) true ts vs ds ps
  | [], [], [], _, _, h => h
  | t :: ts, v :: vs, d :: ds, ps, hr, h => by
    obtain ⟨p, q, h1, h2, rfl⟩ := h
    refine ⟨p, q, Below.trod hl (hr t (by simp)).1 (hr t (by simp)).2 h1 hb ?_, trodAll_back hl hb ts vs ds q (fun t ht => hr t (by simp [ht])) h2, rfl⟩
    obtain ⟨m, hm⟩ := h1
    exact DataW.trod_lt m _ _ _ hm
  | [], _ :: _, _, _, _, h => by cases h
  | [], [], _ :: _, _, _, h => by cases h
  | _ :: _, [], _, _, _, h => by cases h
  | _ :: _, _ :: _, [], _, _, h => by cases h
end
end Go.Proofs.Ytkbaghblchlcnaa
namespace Go.Proofs.Ytkbaghblchlcnaa
open Go.ChangeShapes Go.WideShapes Go.ChangeAt Go.RowKit
section
variable {H : Type} {enc : TypeId × Value → H} {P : Program} {w : World} {base : Nat} {spare : Nat → Bool} {held : Bool}
theorem add_add_ (a : Addr) (i j : Nat) : a.add (i + j) = (a.add i).add j := by
  unfold Addr.add
  by_cases hi : i = 0 <;> by_cases hj : j = 0 <;> simp [hi, hj, Nat.add_assoc]
theorem list_of {α : Type} (Q : Nat → α → Prop) (n : Nat) (h : ∀ i, i < n → ∃ x, Q i x) : ∃ xs : List α, xs.length = n ∧ ∀ i x, xs[i]? = some x → Q i x := by
  induction n with
  | zero => exact ⟨[], rfl, by simp⟩
  | succ n ih =>
    obtain ⟨xs, hl, hq⟩ := ih fun i hi => h i (by omega)
    obtain ⟨x, hx⟩ := h n (by omega)
    refine ⟨xs ++ [x], by simp [hl], fun i y hy => ?_⟩
    rw [List.getElem?_append] at hy
    split at hy
    · exact hq i y hy
    · rename_i hge
      have : i = n := by
        have := (List.getElem?_eq_some_iff.1 hy).1
        simp at this; omega
      subst this
      rw [hl] at hy
      simp at hy
      exact hy ▸ hx
end
end Go.Proofs.Ytkbaghblchlcnaa
namespace Go.Proofs.Ytkbaghblchlcnaa.Lr
open Go.ChangeShapes Go.WideShapes Go.ChangeAt Go.RowKit Go.Proofs.YtkbaghblchlcnaaW.PrintWords Go.Proofs.Ytkbaghblchlcnaa.IAll
theorem wfu64 {a : Int} (h : (Lit.int .u64 a).wf = true) : 0 ≤ a ∧ a ≤ 18446744073709551615 := by
  simp [Lit.wf, IntKind.min, IntKind.max, IntKind.signed, IntKind.bits] at h
  omega
theorem wfu32 {a : Int} (h : (Lit.int .u32 a).wf = true) : 0 ≤ a ∧ a ≤ 4294967295 := by
  simp [Lit.wf, IntKind.min, IntKind.max, IntKind.signed, IntKind.bits] at h
  omega
theorem wfu8 {a : Int} (h : (Lit.int .u8 a).wf = true) : 0 ≤ a ∧ a ≤ 255 := by
  simp [Lit.wf, IntKind.min, IntKind.max, IntKind.signed, IntKind.bits] at h
  omega
section
variable {H : Type} {enc : TypeId × Value → H} {P : Program} {w : World} {base : Nat} {spare : Nat → Bool} {held : Bool}
theorem mem_all {e : TypeId} {d : DataW H} {n : Nat} (hn : n ∈ d.weights P e) : ∀ l : List (DataW H), d ∈ l → n ∈ DataW.weightsAll P e l
  | [], h => by cases h
  | x :: r, h => by
    rw [DataW.weightsAll, List.mem_append]
    rcases List.mem_cons.1 h with q | q
    · subst q; exact .inl hn
    · exact .inr (mem_all hn r q)
theorem open_rows_w {α : Type} {t e : TypeId} {sz fuel lim : Nat} {cs : List Value} {x : DataW H × List MemPlace} (R : α → List Value → Prop) (ok : α → Prop)
    (ht : P.underlying t = some (.slice e)) (hs : P.cellsOf e = sz)
    (hel : ∀ (m : Nat) (c : List Value) (y : DataW H × List MemPlace), DataW.trod enc P w base spare held m e c = some y → c.length = sz → (∀ n ∈ y.1.weights P e, n ≤ lim) → ∃ p : α, R p c ∧ ok p)
    (h : DataW.trod enc P w base spare held fuel t cs = some x) (hw : ∀ n ∈ x.1.weights P t, n ≤ lim) :
    ∃ (A : Option Addr) (len cap : Nat) (xs : List α), cs = [.slice A len cap] ∧ len ≤ cap ∧ cap ≤ maxLen ∧ xs.length = len ∧
      (0 < len → ∃ ad, A = some ad ∧ ∀ j p, xs[j]? = some p → ∃ c, c.length = sz ∧ R p c ∧ ∀ i u, c[i]? = some u → w.cell? (ad.add (j * sz + i)) = some u) ∧ (∀ p ∈ xs, ok p) ∧ len * P.bytesOf e ≤ lim := by
  rcases DataW.trod_slice ht h with ⟨h0, -⟩ | ⟨a, len, cap, elems, rest, n, _, rfl, rfl, hb, hl, hm, hlen, hel', -, -⟩
  · exact ⟨none, 0, 0, [], h0, Nat.le_refl _, Nat.zero_le _, rfl, by omega, by simp, by omega⟩
  · have hww : ∀ q ∈ (elems.length + rest.length) * P.bytesOf e :: (DataW.weightsAll P e (elems.map (·.1)) ++ DataW.weightsAll P e (rest.map (·.1))), q ≤ lim := fun q hq => hw q (by simpa [DataW.weights, ht] using hq)
    have hbig : (elems.length + rest.length) * P.bytesOf e ≤ lim := hww _ List.mem_cons_self
    have hb2 : len * P.bytesOf e ≤ lim := Nat.le_trans (Nat.mul_le_mul_right _ (by omega)) hbig
    obtain ⟨xs, hxl, hxq⟩ := list_of (fun j (p : α) => ok p ∧ ∃ c, c.length = sz ∧ R p c ∧ ∀ i u, c[i]? = some u → w.cell? (a.add (j * sz + i)) = some u) len (fun i hi => by
      have hh := hel' i hi
      rw [hs, List.getElem?_eq_getElem (by omega), Option.bind_eq_some_iff] at hh
      obtain ⟨c, hc, hy⟩ := hh
      obtain ⟨-, hcl, hcc⟩ := World.cells?_some hc
      obtain ⟨p, hp, hok⟩ := hel n c _ hy hcl (fun q hq => hww q (by
        refine List.mem_cons_of_mem _ (List.mem_append_left _ (mem_all hq _ ?_))
        exact List.mem_map_of_mem (List.getElem_mem _)))
      refine ⟨p, hok, c, hcl, hp, fun j u hu => ?_⟩
      have := hcc j (by rw [← hcl]; exact (List.getElem?_eq_some_iff.1 hu).1)
      rw [hu] at this
      rw [← this, add_add_])
    refine ⟨some a, len, cap, xs, rfl, hl, hm, hxl, fun _ => ⟨a, rfl, fun j p hp => (hxq j p hp).2⟩, fun p hp => ?_, hb2⟩
    obtain ⟨j, hj⟩ := List.getElem?_of_mem hp
    exact (hxq j p hj).1
end
section
variable {H : Type} {enc : TypeId × Value → H} {w : World} {base : Nat} {spare : Nat → Bool} {held : Bool}
set_option maxRecDepth 100000 in
theorem leavesL : leaves Try.prog 5 54 = [(0, .int .i64), (1, .int .i64), (2, .int .i64), (3, .int .i64), (4, .bool), (5, .int .i64), (6, .bool)] := by rfl
theorem cellsL : Try.prog.cellsOf 54 = 7 := by kernel_rfl
theorem cellsA : Try.prog.cellsOf 80 = 5 := by kernel_rfl
theorem bytesL : Try.prog.bytesOf 54 = 56 := by kernel_rfl
theorem bytesA : Try.prog.bytesOf 80 = 56 := by kernel_rfl
theorem rowL (m : Nat) (c : List Value) (y : DataW H × List MemPlace) (h : DataW.trod enc Try.prog w base spare held m 54 c = some y) (hl : c.length = 7) : ∃ p : S54, k54.K w p c ∧ True := by
  have hk := leaf_ok 5 m 54 _ _ h
  rw [leavesL] at hk
  obtain ⟨v0, h0, x0, rfl, w0⟩ := hk 0 (.int .i64) (by simp)
  obtain ⟨v1, h1, x1, rfl, w1⟩ := hk 1 (.int .i64) (by simp)
  obtain ⟨v2, h2, x2, rfl, w2⟩ := hk 2 (.int .i64) (by simp)
  obtain ⟨v3, h3, x3, rfl, w3⟩ := hk 3 (.int .i64) (by simp)
  obtain ⟨v4, h4, x4, rfl⟩ := hk 4 (.bool) (by simp)
  obtain ⟨v5, h5, x5, rfl, w5⟩ := hk 5 (.int .i64) (by simp)
  obtain ⟨v6, h6, x6, rfl⟩ := hk 6 (.bool) (by simp)
  refine ⟨⟨x0, x1, x2, x3, x4, x5, x6⟩, ?_, trivial⟩
  match c, hl with
  | [y0, y1, y2, y3, y4, y5, y6], _ =>
    simp at h0 h1 h2 h3 h4 h5 h6
    subst h0
    subst h1
    subst h2
    subst h3
    subst h4
    subst h5
    subst h6
    exact k54_mk w ⟨x0, x1, x2, x3, x4, x5, x6⟩
set_option maxRecDepth 100000 in
theorem rowA (m : Nat) (c : List Value) (y : DataW H × List MemPlace) (h : DataW.trod enc Try.prog w base spare held m 80 c = some y) (hl : c.length = 5) (hw : ∀ n ∈ y.1.weights Try.prog 80, n ≤ reachBytes) :
    ∃ p : VA, kVA.K w p c ∧ (p.f1.length * 56 ≤ 140737488351232 ∧ 0 ≤ p.f4 ∧ p.f4 ≤ 18446744073709551615) := by
  obtain ⟨xs, n, rfl, rfl, -, hxl, hf⟩ := DataW.trod_struct Try.underlying80 h
  have f0 := hf 0 _ rfl
  have f1 := hf 1 _ rfl
  have f2 := hf 2 _ rfl
  have f3 := hf 3 _ rfl
  have f4 := hf 4 _ rfl
  match c, hl with
  | [c0, c1, c2, c3, c4], _ =>
    match xs, hxl with
    | [x0, x1, x2, x3, x4], _ =>
      simp only [List.getElem?_cons_zero, List.getElem?_cons_succ] at f0 f1 f2 f3 f4
      obtain ⟨a0, e0, -, -⟩ := DataW.trod_int Try.underlying3 f0
      obtain ⟨a2, e2, -, -⟩ := DataW.trod_int Try.underlying66 f2
      obtain ⟨a3, e3, -⟩ := DataW.trod_bool Try.underlying4 f3
      obtain ⟨a4, e4, -, w4⟩ := DataW.trod_int Try.underlying67 f4
      obtain ⟨A, len, cap, ls, e1, g1, g2, g3, g4, -, g6⟩ := open_rows_w (lim := reachBytes) (fun p c => k54.K w p c) (fun _ => True) Try.underlying22 cellsL (fun m c y h1 h2 _ => rowL m c y h1 h2) f1 (fun q hq => hw q (by
        simp only [DataW.weights, Try.underlying80, List.map_cons, List.map_nil]
        exact DataW.weights_mem_each (j := 1) (t := 22) (d := x1.1) rfl rfl q hq))
      rw [bytesL] at g6
      obtain rfl := List.cons.inj e0 |>.1
      obtain rfl := List.cons.inj e1 |>.1
      obtain rfl := List.cons.inj e2 |>.1
      obtain rfl := List.cons.inj e3 |>.1
      obtain rfl := List.cons.inj e4 |>.1
      subst g3
      have hu : 0 ≤ a4 ∧ a4 ≤ 18446744073709551615 := by
        have := wfu64 w4
        omega
      exact ⟨⟨a0, ls, a2, a3, a4⟩, ⟨[_], [_, _, _, _], rfl, rfl, ⟨[_], [_, _, _], rfl, ⟨A, cap, rfl, g1, ⟨rfl, Nat.le_trans g1 (Nat.le_trans g2 (by unfold maxLen; omega)), g4⟩⟩, ⟨[_], [_, _], rfl, rfl, ⟨[_], [_], rfl, rfl, rfl⟩⟩⟩⟩, g6, hu⟩
theorem open_acts {fuel : Nat} {cs : List Value} {x : DataW H × List MemPlace} (h : DataW.trod enc Try.prog w base spare held fuel 44 cs = some x) (hw : ∀ n ∈ x.1.weights Try.prog 44, n ≤ reachBytes) :
    ∃ (A : Option Addr) (cap : Nat) (xs : List VA), cs = [.slice A xs.length cap] ∧ ScOk w A xs := by
  obtain ⟨A, len, cap, xs, e, g1, g2, g3, g4, g5, g6⟩ := open_rows_w (lim := reachBytes) (fun p c => kVA.K w p c) (fun p : VA => p.f1.length * 56 ≤ 140737488351232 ∧ 0 ≤ p.f4 ∧ p.f4 ≤ 18446744073709551615) Try.underlying44 cellsA rowA h hw
  subst g3
  rw [bytesA] at g6
  have g7 : xs.length * 56 ≤ 140737488351232 := g6
  exact ⟨A, cap, xs, e, ⟨⟨rfl, Nat.le_trans g1 (Nat.le_trans g2 (by unfold maxLen; omega)), g4⟩, fun p hp => (g5 p hp).1, fun p hp => (g5 p hp).2.1, fun p hp => (g5 p hp).2.2, by omega⟩⟩
end
end Go.Proofs.Ytkbaghblchlcnaa.Lr
