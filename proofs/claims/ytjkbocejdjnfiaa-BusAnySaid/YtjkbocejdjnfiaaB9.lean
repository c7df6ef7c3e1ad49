/- The law BusOne. -/
import Derived.Test.YtjkbocejdjnfiaaB8
import Derived.Test.YtjkbocejdjnfiaaWEqStruct
namespace Go.Proofs.Ytjkbocejdjnfiaa.Bs
open Go.RowKit Go.Shelf Go.Proofs.Ytjkbocejdjnfiaa.IAll Go.Proofs.YtjkbocejdjnfiaaW.PrintWords Go.Proofs.YtjkbocejdjnfiaaW.PrintLast Go.Proofs.YtjkbocejdjnfiaaW.PrintMore
theorem eqS (d : Nat) (w : World) (s t : Sp) : (Op.equalIn (d + 2) 33 (.agg (ES s)) (.agg (ES t))).run Try.prog w = .ok (s.f0 == t.f0 && (s.f1 == t.f1 && (s.f2 == t.f2 && (s.f3 == t.f3)))) w := by
  unfold ES
  refine eqA_of Try.underlying33 (by kernel_rfl) ?_
  refine eqf_cons rfl (by go_simp; rfl) (by go_simp; rfl) (by go_simp) ?_
  refine eqf_cons rfl (by go_simp; rfl) (by go_simp; rfl) (by go_simp) ?_
  refine eqf_cons rfl (by go_simp; rfl) (by go_simp; rfl) (by go_simp) ?_
  exact eqf_last rfl (by go_simp; rfl) (by go_simp; rfl) (by go_simp)
theorem eqSS (d : Nat) (w : World) (s : Sp) : (Op.equalIn (d + 2) 33 (.agg (ES s)) (.agg (ES s))).run Try.prog w = .ok true w := by
  rw [eqS]; simp
attribute [local go_sem] Oper.semAt_some cell_row frozen_row isRow_setCell_eq rowAt_setCell_same rowAt_setCell_other isRow_alloc_eq rowAt_alloc rowAt_new rowAt_new' isRow_setRow_eq rowAt_setRow_same rowAt_setRow_other isRow_drew rowAt_drew size_setRow_ size_drew_ blk_ptr aggOf_agg below_alloc_e below_setCell_e below_setRow_e below_refl_e below_drew_r isRow_drewN rowAt_drewN below_drewN_e le_add_r asideP_alloc_e asideP_setCell_e asideP_setRow_e asideP_drew_e asideP_drewN_e asideP_refl_e cell_setRow_far cell_setCell_far cell_drew_ heap_setCell_far heap_setRow_far heap_drew_ ES_size ES_one ES_fold ES_0 ES_1 allOne_nil allOne_cons Value.oneCell'
attribute [local go_sem ↓] loadS storeS loadSg storeSg
def ovP (addr wd : Int) (y : Sp) : Bool := decide (y.f0 < addr + wd) && decide (addr < y.f0 + y.f1)
theorem apart {d : List Sp} (hs : Srt d) (hn : NoOvl d) {i j : Nat} (h : i < j) (hj : j < d.length) : (rd_T33 d i).f0 + (rd_T33 d i).f1 ≤ (rd_T33 d j).f0 := by
  have h1 := hn i (by omega)
  rcases (show i + 1 = j ∨ i + 1 < j by omega) with h2 | h2
  · rw [← h2]; exact h1
  · have h3 := hs (i + 1) j h2 hj
    omega
theorem rd_app {pre post : List Sp} {s : Sp} : rd_T33 (pre ++ s :: post) (pre.length : Nat) = s := by simp [rd_T33, List.getD_eq_getElem?_getD]
theorem rd_of_mem {d : List Sp} {y : Sp} (h : y ∈ d) : ∃ i : Nat, i < d.length ∧ rd_T33 d i = y := by
  obtain ⟨i, hi, rfl⟩ := List.mem_iff_getElem.1 h
  exact ⟨i, hi, by simp [rd_T33, List.getD_eq_getElem?_getD, List.getElem?_eq_getElem hi]⟩
theorem rd_left {pre post : List Sp} {i : Nat} (h : i < pre.length) : rd_T33 (pre ++ post) i = rd_T33 pre i := by
  simp [rd_T33, List.getD_eq_getElem?_getD, List.getElem?_append_left h]
theorem rd_right {pre post : List Sp} {s : Sp} {i : Nat} : rd_T33 (pre ++ s :: post) ((pre.length + 1 + i : Nat) : Int) = rd_T33 post i := by
  unfold rd_T33
  rw [Int.toNat_natCast, Int.toNat_natCast, List.getD_eq_getElem?_getD, List.getElem?_append_right (by omega), show pre.length + 1 + i - pre.length = i + 1 by omega, List.getElem?_cons_succ, ← List.getD_eq_getElem?_getD]
/-- of what is found alone the access holds an address -/
theorem one_count {d d' : List Sp} {addr wd : Int} {s : Sp} (hp : d'.Perm d) (hs : Srt d') (hn : NoOvl d') (hw : 1 ≤ wd) (hf : d'.find? (hit addr wd) = some s) : d.countP (ovP addr wd) = 1 := by
  rw [← hp.countP_eq]
  obtain ⟨hh, pre, post, rfl, -⟩ := List.find?_eq_some_iff_append.1 hf
  have hh' : s.f0 ≤ addr ∧ addr - s.f0 ≤ s.f1 - wd := by simpa [hit] using hh
  have h1 : pre.countP (ovP addr wd) = 0 := List.countP_eq_zero.2 (by
    intro y hy
    obtain ⟨i, hi, rfl⟩ := rd_of_mem hy
    have := apart hs hn (i := i) (j := pre.length) hi (by simp)
    rw [rd_app, rd_left hi] at this
    simp [ovP]
    omega)
  have h2 : post.countP (ovP addr wd) = 0 := List.countP_eq_zero.2 (by
    intro y hy
    obtain ⟨i, hi, rfl⟩ := rd_of_mem hy
    have := apart hs hn (i := pre.length) (j := pre.length + 1 + i) (by omega) (by simp; omega)
    rw [rd_app, rd_right] at this
    simp [ovP]
    omega)
  have h3 : ovP addr wd s = true := by simp [ovP]; omega
  rw [List.countP_append, List.countP_cons, h1, h2, h3]
  rfl
attribute [local go_sem high] eqSS
attribute [local go_sem] ES_z bne_self_eq_false
set_option maxRecDepth 100000 in
set_option maxHeartbeats 4000000 in
theorem one_law (A : Option Addr) (n c : Nat) (d : List Sp) (addr wd : Int) (w : World) (hr : Kd.C k33 w A n d) :
    Calls Try.prog 6 #[.slice A n c, .int .i64 addr, .int .i64 wd] w fun e w' => e = .returned (.bool true) ∧ Below w.heap.size w w' := by
  have hn : d.length = n := Kd.C_len hr
  have hmx := Kd.C_max hr
  go_enter Try.func6, Try.ntmps6
  go_wp2_with fail
  refine (awake_c w).mono ?_
  rintro e W1 ⟨rfl, hB1⟩
  have hC1 := Kd.C_below hr hB1
  clear hr
  go_wp2_with fail
  refine (New_c A n c d W1 hC1).mono ?_
  rintro e W2 ⟨v, r, rfl, hb2, ho⟩
  have hC2 := Kd.C_below hC1 hb2
  have hB2 : Below w.heap.size w W2 := bk hB1 hB1.size hb2
  have l1 := hB1.size
  clear hC1 hB1 hb2
  have hnil : v = .pointer none ∨ (¬ newBad d ∧ ∃ d' : List Sp, d'.Perm d ∧ Srt d' ∧ NoOvl d' ∧ ∃ g A' c', v = .pointer (some ⟨g, 0, none⟩) ∧ Row W2 g #[.slice A' n c'] ∧ Kd.C k33 W2 A' n d') := by
    rcases ho with ⟨-, h, -⟩ | ⟨hb, d', hp, hs, ⟨-, h, -⟩ | ⟨hno, -, g, A', c', h, -, hrow, -, hC, -⟩⟩
    · exact .inl h
    · exact .inl h
    · exact .inr ⟨hb, d', hp, hs, hno, g, A', c', h, hrow, hC⟩
  clear ho
  rcases hnil with rfl | ⟨hb, d', hp, hs, hno, g, A', c', rfl, hrow, hC⟩
  · go_wp2
    go_ret
    exact ⟨rfl, hB2⟩
  have hD : ∀ y ∈ d, Rgt y := fun y hy => by
    refine (right_rgt ?_).1
    cases h : rightB y with
    | true => rfl
    | false => exact absurd (.inr ⟨y, hy, h⟩) hb
  have hD' : ∀ y ∈ d', Rgt y := fun y hy => hD y (hp.mem_iff.1 hy)
  have HF := Lib.hid (Find_c A' n c' d' g addr wd W2 hrow hC hD')
  have lg := hrow.lt
  have l2 := hB2.size
  clear hb hC hrow
  go_wp2_with fail
  refine HF.out.mono ?_
  rintro e W3 ⟨rfl, hb3⟩
  have hC3 := Kd.C_below hC2 hb3
  have hB3 : Below w.heap.size w W3 := bk hB2 l2 hb3
  have l3 := hB3.size
  clear hC2 hB2 hb3 HF
  by_cases hm : mayN TOP addr wd = 0
  · obtain ⟨hw, ha0, ha1⟩ := may_ok (by decide) hm
    cases hf : d'.find? (hit addr wd) with
    | none =>
      have hfn : fnd d' addr wd = (z33, 0, 42) := by rw [fnd, if_pos hm, hf]
      rw [hfn]
      go_wp2
      go_ret
      exact ⟨rfl, by go_simp⟩
    | some s =>
      have hfn : fnd d' addr wd = (s, addr - s.f0, 0) := by rw [fnd, if_pos hm, hf]
      rw [hfn]
      dsimp only
      have hsm : s ∈ d' := List.mem_of_find?_eq_some hf
      obtain ⟨s0', s1', s2'⟩ := hD' s hsm
      have hh : s.f0 ≤ addr ∧ addr - s.f0 ≤ s.f1 - wd := by simpa [hit] using List.find?_some hf
      have hcnt := one_count hp hs hno (by omega) hf
      have HCn := Lib.hid hcnt
      unfold TOP at *
      have w1 : IntKind.i64.wrap (s.f0 + (addr - s.f0)) = addr := by rw [show s.f0 + (addr - s.f0) = addr by omega]; exact IntWalk.i64_in _ (by omega)
      have w1' : IntKind.i64.wrap addr = addr := IntWalk.i64_in _ (by omega)
      have w2 : IntKind.i64.wrap (addr - s.f0 + wd) = addr - s.f0 + wd := IntWalk.i64_in _ (by omega)
      have w3 : IntKind.i64.wrap (addr + wd) = addr + wd := IntWalk.i64_in _ (by omega)
      have q1 : decide (addr - s.f0 < 0) = false := decide_eq_false (by omega)
      have q2 : decide (s.f1 < addr - s.f0 + wd) = false := decide_eq_false (by omega)
      have hmx2 : d.length ≤ 9223372036854775807 := by omega
      have HD := Lib.hid hD
      clear hcnt hf hfn hm hD hD' hp hs hno hh hsm
      go_wp2
      go_loopw [13, 14] (fun p q wr => ∃ k : Nat, k ≤ n ∧ p = .int .i64 ((d.take k).countP (ovP addr wd)) ∧ q = .int .i64 k ∧ Kd.C k33 wr A n d ∧ Below w.heap.size w wr) (fun _ q _ => n - (intOf q).toNat)
      case atStart =>
        have hba : Below W3.heap.size W3 ((W3.alloc (.cells (ES z33) 33)).setRow W3.heap.size (ES s)) := below_setRow ((Below.refl _ W3).alloc (Nat.le_refl _) _) (Nat.le_refl _) _
        exact ⟨0, by omega, rfl, rfl, Kd.C_below hC3 hba, bk hB3 l3 hba⟩
      case round =>
        obtain ⟨k, hk, rfl, rfl, hCr, hBr⟩ := hrel
        clear hC3 hB3
        by_cases hlt : k < n
        · have k1 : (k : Int) < n := by omega
          have k0 : (0 : Int) ≤ k := by omega
          obtain ⟨ad, e, hx0, hx1, hx2, hx3⟩ := at_T33 hCr (k : Int) k0 k1
          cases e
          rw [Int.toNat_natCast] at hx0 hx1 hx2 hx3
          clear hx2 hx3
          obtain ⟨z0, z1, z2⟩ := HD.out _ (rd_mem (d := d) (k := k) (by omega))
          unfold TOP at z2
          have w4 : IntKind.i64.wrap ((rd_T33 d k).f0 + (rd_T33 d k).f1) = (rd_T33 d k).f0 + (rd_T33 d k).f1 := IntWalk.i64_in _ (by omega)
          have hcl : (d.take k).countP (ovP addr wd) ≤ k := Nat.le_trans List.countP_le_length (by simp; omega)
          have w5 : IntKind.i64.wrap (((d.take k).countP (ovP addr wd) : Int) + 1) = ((d.take k).countP (ovP addr wd) : Int) + 1 := IntWalk.i64_in _ (by omega)
          have HS := Lib.hid (take_next (d := d) (k := k) (by omega))
          by_cases h1 : (rd_T33 d k).f0 < addr + wd
          · by_cases h2 : addr < (rd_T33 d k).f0 + (rd_T33 d k).f1
            · skip
              have HO := Lib.hid (show ovP addr wd (rd_T33 d k) = true by rw [ovP]; simp; omega)
              have q3 := decide_eq_true h1
              have q4 := decide_eq_true h2
              clear h1 h2
              have hB_0 : Below wr.heap.size wr wr := Below.refl _ _
              go_wp2_with fail
              refine wp_named (fun W_ => W_.cell? (ad.add (k * 4)) = some (.int .i64 (rd_T33 d k).f0) ∧ W_.cell? { block := (ad.add (k * 4)).block, off := (ad.add (k * 4)).off + 1 } = some (.int .i64 (rd_T33 d k).f1) ∧ Below wr.heap.size wr W_) (by refine ⟨by first | assumption | (go_simp; done) | exact hx0, by first | assumption | (go_simp; done) | exact hx1, by go_simp⟩) ?_
              rintro v1 ⟨al0_1, al1_1, hB_1⟩
              clear hB_0 hx0 hx1
              have hz_1 : wr.heap.size ≤ v1.heap.size := hB_1.size
              refine wp_region_held_drew (S := fun w' => w'.cell? (ad.add (k * 4)) = some (.int .i64 (rd_T33 d k).f0) ∧ w'.cell? { block := (ad.add (k * 4)).block, off := (ad.add (k * 4)).off + 1 } = some (.int .i64 (rd_T33 d k).f1) ∧ Below wr.heap.size wr w') (by kernel_rfl) ⟨by first | exact al0_1 | (go_simp; done), by first | exact al1_1 | (go_simp; done), by go_simp⟩ (fun hHeld => ?_)
              refine wpAnyH_take (i := 0) (oi := ⟨some 71, .move (.tmp 1), 3, "law.go:137", #[], none⟩) (v := ?_) rfl (by kernel_rfl) (by kernel_rfl) (by kernel_rfl) (fun _ _ _ h => h) (Or.inl ⟨by rfl, ?_⟩) (by assumption) ?_
              rotate_left
              · (intro w_ hS_; (try dsimp only at hS_); go_simp; try with_reducible rfl)
              try simp only [Act.put, List.setIfInBounds_toArray, List.set_cons_zero, List.set_cons_succ]
              refine wpAnyH_take (i := 1) (oi := ⟨some 72, .move (.tmp 2), 3, "law.go:137", #[], none⟩) (v := ?_) rfl (by kernel_rfl) (by kernel_rfl) (by kernel_rfl) (fun _ _ _ h => h) (Or.inl ⟨by rfl, ?_⟩) (by assumption) ?_
              rotate_left
              · (intro w_ hS_; (try dsimp only at hS_); go_simp; try with_reducible rfl)
              try simp only [Act.put, List.setIfInBounds_toArray, List.set_cons_zero, List.set_cons_succ]
              refine wpAnyH_take (i := 2) (oi := ⟨some 73, .binOp .add 3 (.tmp 71) (.tmp 72) 3, 3, "law.go:137", #[⟨0, .data⟩, ⟨1, .data⟩], none⟩) (v := ?_) rfl (by kernel_rfl) (by kernel_rfl) (by kernel_rfl) (fun _ _ _ h => h) (Or.inl ⟨by rfl, ?_⟩) (by assumption) ?_
              rotate_left
              · (intro w_ hS_; (try dsimp only at hS_); go_simp; try with_reducible rfl)
              try simp only [Act.put, List.setIfInBounds_toArray, List.set_cons_zero, List.set_cons_succ]
              refine wpAnyH_take (i := 3) (oi := ⟨some 74, .move (.tmp 0), 22, "law.go:137", #[], none⟩) (v := ?_) rfl (by kernel_rfl) (by kernel_rfl) (by kernel_rfl) (fun _ _ _ h => h) (Or.inl ⟨by rfl, ?_⟩) (by assumption) ?_
              rotate_left
              · (intro w_ hS_; (try dsimp only at hS_); go_simp; try with_reducible rfl)
              try simp only [Act.put, List.setIfInBounds_toArray, List.set_cons_zero, List.set_cons_succ]
              refine wpAnyH_take (i := 4) (oi := ⟨some 75, .move (.tmp 14), 3, "law.go:137", #[], none⟩) (v := ?_) rfl (by kernel_rfl) (by kernel_rfl) (by kernel_rfl) (fun _ _ _ h => h) (Or.inl ⟨by rfl, ?_⟩) (by assumption) ?_
              rotate_left
              · (intro w_ hS_; (try dsimp only at hS_); go_simp; try with_reducible rfl)
              try simp only [Act.put, List.setIfInBounds_toArray, List.set_cons_zero, List.set_cons_succ]
              refine wpAnyH_take (i := 5) (oi := ⟨some 76, .indexAddr 22 (.tmp 74) (.tmp 75), 0, "law.go:137", #[⟨3, .data⟩, ⟨4, .data⟩], none⟩) (v := ?_) rfl (by kernel_rfl) (by kernel_rfl) (by kernel_rfl) (fun _ _ _ h => h) (Or.inl ⟨by rfl, ?_⟩) (by assumption) ?_
              rotate_left
              · (intro w_ hS_; (try dsimp only at hS_); go_simp; try with_reducible rfl)
              try simp only [Act.put, List.setIfInBounds_toArray, List.set_cons_zero, List.set_cons_succ]
              refine wpAnyH_take (i := 6) (oi := ⟨some 77, .fieldAddr 33 (.tmp 76) 0, 0, "law.go:137", #[⟨5, .data⟩], none⟩) (v := ?_) rfl (by kernel_rfl) (by kernel_rfl) (by kernel_rfl) (fun _ _ _ h => h) (Or.inl ⟨by rfl, ?_⟩) (by assumption) ?_
              rotate_left
              · (intro w_ hS_; (try dsimp only at hS_); go_simp; try with_reducible rfl)
              try simp only [Act.put, List.setIfInBounds_toArray, List.set_cons_zero, List.set_cons_succ]
              refine wpAnyH_take (i := 7) (oi := ⟨some 78, .load 3 (.tmp 77), 3, "law.go:137", #[⟨6, .data⟩], none⟩) (v := ?_) rfl (by kernel_rfl) (by kernel_rfl) (by kernel_rfl) (fun _ _ _ h => h) (Or.inl ⟨by rfl, ?_⟩) (by assumption) ?_
              rotate_left
              · (intro w_ hS_; (try dsimp only at hS_); go_simp; try with_reducible rfl)
              try simp only [Act.put, List.setIfInBounds_toArray, List.set_cons_zero, List.set_cons_succ]
              refine wpAnyH_take (i := 8) (oi := ⟨some 79, .binOp .gtr 3 (.tmp 73) (.tmp 78) 3, 4, "law.go:137", #[⟨2, .data⟩, ⟨7, .data⟩], none⟩) (v := ?_) rfl (by kernel_rfl) (by kernel_rfl) (by kernel_rfl) (fun _ _ _ h => h) (Or.inl ⟨by rfl, ?_⟩) (by assumption) ?_
              rotate_left
              · (intro w_ hS_; (try dsimp only at hS_); go_simp; try with_reducible rfl)
              try simp only [Act.put, List.setIfInBounds_toArray, List.set_cons_zero, List.set_cons_succ]
              refine wpAnyH_take (i := 9) (oi := ⟨some 80, .move (.tmp 79), 4, "law.go:137", #[⟨8, .data⟩], none⟩) (v := ?_) rfl (by kernel_rfl) (by kernel_rfl) (by kernel_rfl) (fun _ _ _ h => h) (Or.inl ⟨by rfl, ?_⟩) (by assumption) ?_
              rotate_left
              · (intro w_ hS_; (try dsimp only at hS_); go_simp; try with_reducible rfl)
              try simp only [Act.put, List.setIfInBounds_toArray, List.set_cons_zero, List.set_cons_succ]
              refine wpAnyH_take (i := 10) (oi := ⟨some 81, .move (.tmp 1), 3, "law.go:137", #[⟨9, .guard⟩], some (9, true)⟩) (v := ?_) rfl (by kernel_rfl) (by kernel_rfl) (by kernel_rfl) (fun _ _ _ h => h) (Or.inl ⟨by rfl, ?_⟩) (by assumption) ?_
              rotate_left
              · (intro w_ hS_; (try dsimp only at hS_); go_simp; try with_reducible rfl)
              try simp only [Act.put, List.setIfInBounds_toArray, List.set_cons_zero, List.set_cons_succ]
              refine wpAnyH_take (i := 11) (oi := ⟨some 82, .move (.tmp 0), 22, "law.go:137", #[⟨9, .guard⟩], some (9, true)⟩) (v := ?_) rfl (by kernel_rfl) (by kernel_rfl) (by kernel_rfl) (fun _ _ _ h => h) (Or.inl ⟨by rfl, ?_⟩) (by assumption) ?_
              rotate_left
              · (intro w_ hS_; (try dsimp only at hS_); go_simp; try with_reducible rfl)
              try simp only [Act.put, List.setIfInBounds_toArray, List.set_cons_zero, List.set_cons_succ]
              refine wpAnyH_take (i := 12) (oi := ⟨some 83, .move (.tmp 14), 3, "law.go:137", #[⟨9, .guard⟩], some (9, true)⟩) (v := ?_) rfl (by kernel_rfl) (by kernel_rfl) (by kernel_rfl) (fun _ _ _ h => h) (Or.inl ⟨by rfl, ?_⟩) (by assumption) ?_
              rotate_left
              · (intro w_ hS_; (try dsimp only at hS_); go_simp; try with_reducible rfl)
              try simp only [Act.put, List.setIfInBounds_toArray, List.set_cons_zero, List.set_cons_succ]
              refine wpAnyH_take (i := 13) (oi := ⟨some 84, .indexAddr 22 (.tmp 82) (.tmp 83), 0, "law.go:137", #[⟨11, .data⟩, ⟨12, .data⟩, ⟨9, .guard⟩], some (9, true)⟩) (v := ?_) rfl (by kernel_rfl) (by kernel_rfl) (by kernel_rfl) (fun _ _ _ h => h) (Or.inl ⟨by rfl, ?_⟩) (by assumption) ?_
              rotate_left
              · (intro w_ hS_; (try dsimp only at hS_); go_simp; try with_reducible rfl)
              try simp only [Act.put, List.setIfInBounds_toArray, List.set_cons_zero, List.set_cons_succ]
              refine wpAnyH_take (i := 14) (oi := ⟨some 85, .fieldAddr 33 (.tmp 84) 0, 0, "law.go:137", #[⟨13, .data⟩, ⟨9, .guard⟩], some (9, true)⟩) (v := ?_) rfl (by kernel_rfl) (by kernel_rfl) (by kernel_rfl) (fun _ _ _ h => h) (Or.inl ⟨by rfl, ?_⟩) (by assumption) ?_
              rotate_left
              · (intro w_ hS_; (try dsimp only at hS_); go_simp; try with_reducible rfl)
              try simp only [Act.put, List.setIfInBounds_toArray, List.set_cons_zero, List.set_cons_succ]
              refine wpAnyH_take (i := 15) (oi := ⟨some 86, .load 3 (.tmp 85), 3, "law.go:137", #[⟨14, .data⟩, ⟨9, .guard⟩], some (9, true)⟩) (v := ?_) rfl (by kernel_rfl) (by kernel_rfl) (by kernel_rfl) (fun _ _ _ h => h) (Or.inl ⟨by rfl, ?_⟩) (by assumption) ?_
              rotate_left
              · (intro w_ hS_; (try dsimp only at hS_); go_simp; try with_reducible rfl)
              try simp only [Act.put, List.setIfInBounds_toArray, List.set_cons_zero, List.set_cons_succ]
              refine wpAnyH_take (i := 16) (oi := ⟨some 87, .move (.tmp 0), 22, "law.go:137", #[⟨9, .guard⟩], some (9, true)⟩) (v := ?_) rfl (by kernel_rfl) (by kernel_rfl) (by kernel_rfl) (fun _ _ _ h => h) (Or.inl ⟨by rfl, ?_⟩) (by assumption) ?_
              rotate_left
              · (intro w_ hS_; (try dsimp only at hS_); go_simp; try with_reducible rfl)
              try simp only [Act.put, List.setIfInBounds_toArray, List.set_cons_zero, List.set_cons_succ]
              refine wpAnyH_take (i := 17) (oi := ⟨some 88, .move (.tmp 14), 3, "law.go:137", #[⟨9, .guard⟩], some (9, true)⟩) (v := ?_) rfl (by kernel_rfl) (by kernel_rfl) (by kernel_rfl) (fun _ _ _ h => h) (Or.inl ⟨by rfl, ?_⟩) (by assumption) ?_
              rotate_left
              · (intro w_ hS_; (try dsimp only at hS_); go_simp; try with_reducible rfl)
              try simp only [Act.put, List.setIfInBounds_toArray, List.set_cons_zero, List.set_cons_succ]
              refine wpAnyH_take (i := 18) (oi := ⟨some 89, .indexAddr 22 (.tmp 87) (.tmp 88), 0, "law.go:137", #[⟨16, .data⟩, ⟨17, .data⟩, ⟨9, .guard⟩], some (9, true)⟩) (v := ?_) rfl (by kernel_rfl) (by kernel_rfl) (by kernel_rfl) (fun _ _ _ h => h) (Or.inl ⟨by rfl, ?_⟩) (by assumption) ?_
              rotate_left
              · (intro w_ hS_; (try dsimp only at hS_); go_simp; try with_reducible rfl)
              try simp only [Act.put, List.setIfInBounds_toArray, List.set_cons_zero, List.set_cons_succ]
              refine wpAnyH_take (i := 19) (oi := ⟨some 90, .fieldAddr 33 (.tmp 89) 1, 0, "law.go:137", #[⟨18, .data⟩, ⟨9, .guard⟩], some (9, true)⟩) (v := ?_) rfl (by kernel_rfl) (by kernel_rfl) (by kernel_rfl) (fun _ _ _ h => h) (Or.inl ⟨by rfl, ?_⟩) (by assumption) ?_
              rotate_left
              · (intro w_ hS_; (try dsimp only at hS_); go_simp; try with_reducible rfl)
              try simp only [Act.put, List.setIfInBounds_toArray, List.set_cons_zero, List.set_cons_succ]
              refine wpAnyH_take (i := 20) (oi := ⟨some 91, .load 3 (.tmp 90), 3, "law.go:137", #[⟨19, .data⟩, ⟨9, .guard⟩], some (9, true)⟩) (v := ?_) rfl (by kernel_rfl) (by kernel_rfl) (by kernel_rfl) (fun _ _ _ h => h) (Or.inl ⟨by rfl, ?_⟩) (by assumption) ?_
              rotate_left
              · (intro w_ hS_; (try dsimp only at hS_); go_simp; try with_reducible rfl)
              try simp only [Act.put, List.setIfInBounds_toArray, List.set_cons_zero, List.set_cons_succ]
              refine wpAnyH_take (i := 21) (oi := ⟨some 92, .binOp .add 3 (.tmp 86) (.tmp 91) 3, 3, "law.go:137", #[⟨15, .data⟩, ⟨20, .data⟩, ⟨9, .guard⟩], some (9, true)⟩) (v := ?_) rfl (by kernel_rfl) (by kernel_rfl) (by kernel_rfl) (fun _ _ _ h => h) (Or.inl ⟨by rfl, ?_⟩) (by assumption) ?_
              rotate_left
              · (intro w_ hS_; (try dsimp only at hS_); go_simp; try with_reducible rfl)
              try simp only [Act.put, List.setIfInBounds_toArray, List.set_cons_zero, List.set_cons_succ]
              refine wpAnyH_take (i := 22) (oi := ⟨some 93, .binOp .lss 3 (.tmp 81) (.tmp 92) 3, 4, "law.go:137", #[⟨10, .data⟩, ⟨21, .data⟩, ⟨9, .guard⟩], some (9, true)⟩) (v := ?_) rfl (by kernel_rfl) (by kernel_rfl) (by kernel_rfl) (fun _ _ _ h => h) (Or.inl ⟨by rfl, ?_⟩) (by assumption) ?_
              rotate_left
              · (intro w_ hS_; (try dsimp only at hS_); go_simp; try with_reducible rfl)
              try simp only [Act.put, List.setIfInBounds_toArray, List.set_cons_zero, List.set_cons_succ]
              refine wpAnyH_take (i := 23) (oi := ⟨some 94, .pick (.tmp 80) (.tmp 93) (.const (.bool false)), 4, "law.go:137", #[⟨9, .data⟩, ⟨22, .data⟩], none⟩) (v := ?_) rfl (by kernel_rfl) (by kernel_rfl) (by kernel_rfl) (fun _ _ _ h => h) (Or.inl ⟨by rfl, ?_⟩) (by assumption) ?_
              rotate_left
              · (intro w_ hS_; (try dsimp only at hS_); go_simp; try with_reducible rfl)
              try simp only [Act.put, List.setIfInBounds_toArray, List.set_cons_zero, List.set_cons_succ]
              refine wpAnyH_done (by kernel_rfl) ?_ _
              (try dsimp only at hHeld)
              go_split_ands
              have hBv : Below wr.heap.size wr v1.drew := by assumption
              have hBv1 : Below w.heap.size w v1.drew := bk hBr hBr.size hBv
              have hCv : Kd.C k33 v1.drew (some ad) n d := Kd.C_below hCr hBv
              go_wp2
              go_roundw
              case rel =>
                refine ⟨k + 1, by omega, ?_, congrArg (Value.int .i64) (by omega), hCv, hBv1⟩
                rw [HS.out, List.countP_append, List.countP_singleton, HO.out]
                exact congrArg (Value.int .i64) (by simp)
              case measure => simp [intOf]; omega
            · skip
              have HO := Lib.hid (show ovP addr wd (rd_T33 d k) = false by rw [ovP]; simp; omega)
              have q3 := decide_eq_true h1
              have q4 := decide_eq_false h2
              clear h1 h2
              have hB_0 : Below wr.heap.size wr wr := Below.refl _ _
              go_wp2_with fail
              refine wp_named (fun W_ => W_.cell? (ad.add (k * 4)) = some (.int .i64 (rd_T33 d k).f0) ∧ W_.cell? { block := (ad.add (k * 4)).block, off := (ad.add (k * 4)).off + 1 } = some (.int .i64 (rd_T33 d k).f1) ∧ Below wr.heap.size wr W_) (by refine ⟨by first | assumption | (go_simp; done) | exact hx0, by first | assumption | (go_simp; done) | exact hx1, by go_simp⟩) ?_
              rintro v1 ⟨al0_1, al1_1, hB_1⟩
              clear hB_0 hx0 hx1
              have hz_1 : wr.heap.size ≤ v1.heap.size := hB_1.size
              refine wp_region_held_drew (S := fun w' => w'.cell? (ad.add (k * 4)) = some (.int .i64 (rd_T33 d k).f0) ∧ w'.cell? { block := (ad.add (k * 4)).block, off := (ad.add (k * 4)).off + 1 } = some (.int .i64 (rd_T33 d k).f1) ∧ Below wr.heap.size wr w') (by kernel_rfl) ⟨by first | exact al0_1 | (go_simp; done), by first | exact al1_1 | (go_simp; done), by go_simp⟩ (fun hHeld => ?_)
              refine wpAnyH_take (i := 0) (oi := ⟨some 71, .move (.tmp 1), 3, "law.go:137", #[], none⟩) (v := ?_) rfl (by kernel_rfl) (by kernel_rfl) (by kernel_rfl) (fun _ _ _ h => h) (Or.inl ⟨by rfl, ?_⟩) (by assumption) ?_
              rotate_left
              · (intro w_ hS_; (try dsimp only at hS_); go_simp; try with_reducible rfl)
              try simp only [Act.put, List.setIfInBounds_toArray, List.set_cons_zero, List.set_cons_succ]
              refine wpAnyH_take (i := 1) (oi := ⟨some 72, .move (.tmp 2), 3, "law.go:137", #[], none⟩) (v := ?_) rfl (by kernel_rfl) (by kernel_rfl) (by kernel_rfl) (fun _ _ _ h => h) (Or.inl ⟨by rfl, ?_⟩) (by assumption) ?_
              rotate_left
              · (intro w_ hS_; (try dsimp only at hS_); go_simp; try with_reducible rfl)
              try simp only [Act.put, List.setIfInBounds_toArray, List.set_cons_zero, List.set_cons_succ]
              refine wpAnyH_take (i := 2) (oi := ⟨some 73, .binOp .add 3 (.tmp 71) (.tmp 72) 3, 3, "law.go:137", #[⟨0, .data⟩, ⟨1, .data⟩], none⟩) (v := ?_) rfl (by kernel_rfl) (by kernel_rfl) (by kernel_rfl) (fun _ _ _ h => h) (Or.inl ⟨by rfl, ?_⟩) (by assumption) ?_
              rotate_left
              · (intro w_ hS_; (try dsimp only at hS_); go_simp; try with_reducible rfl)
              try simp only [Act.put, List.setIfInBounds_toArray, List.set_cons_zero, List.set_cons_succ]
              refine wpAnyH_take (i := 3) (oi := ⟨some 74, .move (.tmp 0), 22, "law.go:137", #[], none⟩) (v := ?_) rfl (by kernel_rfl) (by kernel_rfl) (by kernel_rfl) (fun _ _ _ h => h) (Or.inl ⟨by rfl, ?_⟩) (by assumption) ?_
              rotate_left
              · (intro w_ hS_; (try dsimp only at hS_); go_simp; try with_reducible rfl)
              try simp only [Act.put, List.setIfInBounds_toArray, List.set_cons_zero, List.set_cons_succ]
              refine wpAnyH_take (i := 4) (oi := ⟨some 75, .move (.tmp 14), 3, "law.go:137", #[], none⟩) (v := ?_) rfl (by kernel_rfl) (by kernel_rfl) (by kernel_rfl) (fun _ _ _ h => h) (Or.inl ⟨by rfl, ?_⟩) (by assumption) ?_
              rotate_left
              · (intro w_ hS_; (try dsimp only at hS_); go_simp; try with_reducible rfl)
              try simp only [Act.put, List.setIfInBounds_toArray, List.set_cons_zero, List.set_cons_succ]
              refine wpAnyH_take (i := 5) (oi := ⟨some 76, .indexAddr 22 (.tmp 74) (.tmp 75), 0, "law.go:137", #[⟨3, .data⟩, ⟨4, .data⟩], none⟩) (v := ?_) rfl (by kernel_rfl) (by kernel_rfl) (by kernel_rfl) (fun _ _ _ h => h) (Or.inl ⟨by rfl, ?_⟩) (by assumption) ?_
              rotate_left
              · (intro w_ hS_; (try dsimp only at hS_); go_simp; try with_reducible rfl)
              try simp only [Act.put, List.setIfInBounds_toArray, List.set_cons_zero, List.set_cons_succ]
              refine wpAnyH_take (i := 6) (oi := ⟨some 77, .fieldAddr 33 (.tmp 76) 0, 0, "law.go:137", #[⟨5, .data⟩], none⟩) (v := ?_) rfl (by kernel_rfl) (by kernel_rfl) (by kernel_rfl) (fun _ _ _ h => h) (Or.inl ⟨by rfl, ?_⟩) (by assumption) ?_
              rotate_left
              · (intro w_ hS_; (try dsimp only at hS_); go_simp; try with_reducible rfl)
              try simp only [Act.put, List.setIfInBounds_toArray, List.set_cons_zero, List.set_cons_succ]
              refine wpAnyH_take (i := 7) (oi := ⟨some 78, .load 3 (.tmp 77), 3, "law.go:137", #[⟨6, .data⟩], none⟩) (v := ?_) rfl (by kernel_rfl) (by kernel_rfl) (by kernel_rfl) (fun _ _ _ h => h) (Or.inl ⟨by rfl, ?_⟩) (by assumption) ?_
              rotate_left
              · (intro w_ hS_; (try dsimp only at hS_); go_simp; try with_reducible rfl)
              try simp only [Act.put, List.setIfInBounds_toArray, List.set_cons_zero, List.set_cons_succ]
              refine wpAnyH_take (i := 8) (oi := ⟨some 79, .binOp .gtr 3 (.tmp 73) (.tmp 78) 3, 4, "law.go:137", #[⟨2, .data⟩, ⟨7, .data⟩], none⟩) (v := ?_) rfl (by kernel_rfl) (by kernel_rfl) (by kernel_rfl) (fun _ _ _ h => h) (Or.inl ⟨by rfl, ?_⟩) (by assumption) ?_
              rotate_left
              · (intro w_ hS_; (try dsimp only at hS_); go_simp; try with_reducible rfl)
              try simp only [Act.put, List.setIfInBounds_toArray, List.set_cons_zero, List.set_cons_succ]
              refine wpAnyH_take (i := 9) (oi := ⟨some 80, .move (.tmp 79), 4, "law.go:137", #[⟨8, .data⟩], none⟩) (v := ?_) rfl (by kernel_rfl) (by kernel_rfl) (by kernel_rfl) (fun _ _ _ h => h) (Or.inl ⟨by rfl, ?_⟩) (by assumption) ?_
              rotate_left
              · (intro w_ hS_; (try dsimp only at hS_); go_simp; try with_reducible rfl)
              try simp only [Act.put, List.setIfInBounds_toArray, List.set_cons_zero, List.set_cons_succ]
              refine wpAnyH_take (i := 10) (oi := ⟨some 81, .move (.tmp 1), 3, "law.go:137", #[⟨9, .guard⟩], some (9, true)⟩) (v := ?_) rfl (by kernel_rfl) (by kernel_rfl) (by kernel_rfl) (fun _ _ _ h => h) (Or.inl ⟨by rfl, ?_⟩) (by assumption) ?_
              rotate_left
              · (intro w_ hS_; (try dsimp only at hS_); go_simp; try with_reducible rfl)
              try simp only [Act.put, List.setIfInBounds_toArray, List.set_cons_zero, List.set_cons_succ]
              refine wpAnyH_take (i := 11) (oi := ⟨some 82, .move (.tmp 0), 22, "law.go:137", #[⟨9, .guard⟩], some (9, true)⟩) (v := ?_) rfl (by kernel_rfl) (by kernel_rfl) (by kernel_rfl) (fun _ _ _ h => h) (Or.inl ⟨by rfl, ?_⟩) (by assumption) ?_
              rotate_left
              · (intro w_ hS_; (try dsimp only at hS_); go_simp; try with_reducible rfl)
              try simp only [Act.put, List.setIfInBounds_toArray, List.set_cons_zero, List.set_cons_succ]
              refine wpAnyH_take (i := 12) (oi := ⟨some 83, .move (.tmp 14), 3, "law.go:137", #[⟨9, .guard⟩], some (9, true)⟩) (v := ?_) rfl (by kernel_rfl) (by kernel_rfl) (by kernel_rfl) (fun _ _ _ h => h) (Or.inl ⟨by rfl, ?_⟩) (by assumption) ?_
              rotate_left
              · (intro w_ hS_; (try dsimp only at hS_); go_simp; try with_reducible rfl)
              try simp only [Act.put, List.setIfInBounds_toArray, List.set_cons_zero, List.set_cons_succ]
              refine wpAnyH_take (i := 13) (oi := ⟨some 84, .indexAddr 22 (.tmp 82) (.tmp 83), 0, "law.go:137", #[⟨11, .data⟩, ⟨12, .data⟩, ⟨9, .guard⟩], some (9, true)⟩) (v := ?_) rfl (by kernel_rfl) (by kernel_rfl) (by kernel_rfl) (fun _ _ _ h => h) (Or.inl ⟨by rfl, ?_⟩) (by assumption) ?_
              rotate_left
              · (intro w_ hS_; (try dsimp only at hS_); go_simp; try with_reducible rfl)
              try simp only [Act.put, List.setIfInBounds_toArray, List.set_cons_zero, List.set_cons_succ]
              refine wpAnyH_take (i := 14) (oi := ⟨some 85, .fieldAddr 33 (.tmp 84) 0, 0, "law.go:137", #[⟨13, .data⟩, ⟨9, .guard⟩], some (9, true)⟩) (v := ?_) rfl (by kernel_rfl) (by kernel_rfl) (by kernel_rfl) (fun _ _ _ h => h) (Or.inl ⟨by rfl, ?_⟩) (by assumption) ?_
              rotate_left
              · (intro w_ hS_; (try dsimp only at hS_); go_simp; try with_reducible rfl)
              try simp only [Act.put, List.setIfInBounds_toArray, List.set_cons_zero, List.set_cons_succ]
              refine wpAnyH_take (i := 15) (oi := ⟨some 86, .load 3 (.tmp 85), 3, "law.go:137", #[⟨14, .data⟩, ⟨9, .guard⟩], some (9, true)⟩) (v := ?_) rfl (by kernel_rfl) (by kernel_rfl) (by kernel_rfl) (fun _ _ _ h => h) (Or.inl ⟨by rfl, ?_⟩) (by assumption) ?_
              rotate_left
              · (intro w_ hS_; (try dsimp only at hS_); go_simp; try with_reducible rfl)
              try simp only [Act.put, List.setIfInBounds_toArray, List.set_cons_zero, List.set_cons_succ]
              refine wpAnyH_take (i := 16) (oi := ⟨some 87, .move (.tmp 0), 22, "law.go:137", #[⟨9, .guard⟩], some (9, true)⟩) (v := ?_) rfl (by kernel_rfl) (by kernel_rfl) (by kernel_rfl) (fun _ _ _ h => h) (Or.inl ⟨by rfl, ?_⟩) (by assumption) ?_
              rotate_left
              · (intro w_ hS_; (try dsimp only at hS_); go_simp; try with_reducible rfl)
              try simp only [Act.put, List.setIfInBounds_toArray, List.set_cons_zero, List.set_cons_succ]
              refine wpAnyH_take (i := 17) (oi := ⟨some 88, .move (.tmp 14), 3, "law.go:137", #[⟨9, .guard⟩], some (9, true)⟩) (v := ?_) rfl (by kernel_rfl) (by kernel_rfl) (by kernel_rfl) (fun _ _ _ h => h) (Or.inl ⟨by rfl, ?_⟩) (by assumption) ?_
              rotate_left
              · (intro w_ hS_; (try dsimp only at hS_); go_simp; try with_reducible rfl)
              try simp only [Act.put, List.setIfInBounds_toArray, List.set_cons_zero, List.set_cons_succ]
              refine wpAnyH_take (i := 18) (oi := ⟨some 89, .indexAddr 22 (.tmp 87) (.tmp 88), 0, "law.go:137", #[⟨16, .data⟩, ⟨17, .data⟩, ⟨9, .guard⟩], some (9, true)⟩) (v := ?_) rfl (by kernel_rfl) (by kernel_rfl) (by kernel_rfl) (fun _ _ _ h => h) (Or.inl ⟨by rfl, ?_⟩) (by assumption) ?_
              rotate_left
              · (intro w_ hS_; (try dsimp only at hS_); go_simp; try with_reducible rfl)
              try simp only [Act.put, List.setIfInBounds_toArray, List.set_cons_zero, List.set_cons_succ]
              refine wpAnyH_take (i := 19) (oi := ⟨some 90, .fieldAddr 33 (.tmp 89) 1, 0, "law.go:137", #[⟨18, .data⟩, ⟨9, .guard⟩], some (9, true)⟩) (v := ?_) rfl (by kernel_rfl) (by kernel_rfl) (by kernel_rfl) (fun _ _ _ h => h) (Or.inl ⟨by rfl, ?_⟩) (by assumption) ?_
              rotate_left
              · (intro w_ hS_; (try dsimp only at hS_); go_simp; try with_reducible rfl)
              try simp only [Act.put, List.setIfInBounds_toArray, List.set_cons_zero, List.set_cons_succ]
              refine wpAnyH_take (i := 20) (oi := ⟨some 91, .load 3 (.tmp 90), 3, "law.go:137", #[⟨19, .data⟩, ⟨9, .guard⟩], some (9, true)⟩) (v := ?_) rfl (by kernel_rfl) (by kernel_rfl) (by kernel_rfl) (fun _ _ _ h => h) (Or.inl ⟨by rfl, ?_⟩) (by assumption) ?_
              rotate_left
              · (intro w_ hS_; (try dsimp only at hS_); go_simp; try with_reducible rfl)
              try simp only [Act.put, List.setIfInBounds_toArray, List.set_cons_zero, List.set_cons_succ]
              refine wpAnyH_take (i := 21) (oi := ⟨some 92, .binOp .add 3 (.tmp 86) (.tmp 91) 3, 3, "law.go:137", #[⟨15, .data⟩, ⟨20, .data⟩, ⟨9, .guard⟩], some (9, true)⟩) (v := ?_) rfl (by kernel_rfl) (by kernel_rfl) (by kernel_rfl) (fun _ _ _ h => h) (Or.inl ⟨by rfl, ?_⟩) (by assumption) ?_
              rotate_left
              · (intro w_ hS_; (try dsimp only at hS_); go_simp; try with_reducible rfl)
              try simp only [Act.put, List.setIfInBounds_toArray, List.set_cons_zero, List.set_cons_succ]
              refine wpAnyH_take (i := 22) (oi := ⟨some 93, .binOp .lss 3 (.tmp 81) (.tmp 92) 3, 4, "law.go:137", #[⟨10, .data⟩, ⟨21, .data⟩, ⟨9, .guard⟩], some (9, true)⟩) (v := ?_) rfl (by kernel_rfl) (by kernel_rfl) (by kernel_rfl) (fun _ _ _ h => h) (Or.inl ⟨by rfl, ?_⟩) (by assumption) ?_
              rotate_left
              · (intro w_ hS_; (try dsimp only at hS_); go_simp; try with_reducible rfl)
              try simp only [Act.put, List.setIfInBounds_toArray, List.set_cons_zero, List.set_cons_succ]
              refine wpAnyH_take (i := 23) (oi := ⟨some 94, .pick (.tmp 80) (.tmp 93) (.const (.bool false)), 4, "law.go:137", #[⟨9, .data⟩, ⟨22, .data⟩], none⟩) (v := ?_) rfl (by kernel_rfl) (by kernel_rfl) (by kernel_rfl) (fun _ _ _ h => h) (Or.inl ⟨by rfl, ?_⟩) (by assumption) ?_
              rotate_left
              · (intro w_ hS_; (try dsimp only at hS_); go_simp; try with_reducible rfl)
              try simp only [Act.put, List.setIfInBounds_toArray, List.set_cons_zero, List.set_cons_succ]
              refine wpAnyH_done (by kernel_rfl) ?_ _
              (try dsimp only at hHeld)
              go_split_ands
              have hBv : Below wr.heap.size wr v1.drew := by assumption
              have hBv1 : Below w.heap.size w v1.drew := bk hBr hBr.size hBv
              have hCv : Kd.C k33 v1.drew (some ad) n d := Kd.C_below hCr hBv
              go_wp2
              go_roundw
              case rel =>
                refine ⟨k + 1, by omega, ?_, congrArg (Value.int .i64) (by omega), hCv, hBv1⟩
                rw [HS.out, List.countP_append, List.countP_singleton, HO.out]
                exact congrArg (Value.int .i64) (by simp)
              case measure => simp [intOf]; omega
          · skip
            have HO := Lib.hid (show ovP addr wd (rd_T33 d k) = false by rw [ovP]; simp; omega)
            have q3 := decide_eq_false h1
            clear h1
            have hB_0 : Below wr.heap.size wr wr := Below.refl _ _
            go_wp2_with fail
            refine wp_named (fun W_ => W_.cell? (ad.add (k * 4)) = some (.int .i64 (rd_T33 d k).f0) ∧ W_.cell? { block := (ad.add (k * 4)).block, off := (ad.add (k * 4)).off + 1 } = some (.int .i64 (rd_T33 d k).f1) ∧ Below wr.heap.size wr W_) (by refine ⟨by first | assumption | (go_simp; done) | exact hx0, by first | assumption | (go_simp; done) | exact hx1, by go_simp⟩) ?_
            rintro v1 ⟨al0_1, al1_1, hB_1⟩
            clear hB_0 hx0 hx1
            have hz_1 : wr.heap.size ≤ v1.heap.size := hB_1.size
            refine wp_region_held_drew (S := fun w' => w'.cell? (ad.add (k * 4)) = some (.int .i64 (rd_T33 d k).f0) ∧ w'.cell? { block := (ad.add (k * 4)).block, off := (ad.add (k * 4)).off + 1 } = some (.int .i64 (rd_T33 d k).f1) ∧ Below wr.heap.size wr w') (by kernel_rfl) ⟨by first | exact al0_1 | (go_simp; done), by first | exact al1_1 | (go_simp; done), by go_simp⟩ (fun hHeld => ?_)
            refine wpAnyH_take (i := 0) (oi := ⟨some 71, .move (.tmp 1), 3, "law.go:137", #[], none⟩) (v := ?_) rfl (by kernel_rfl) (by kernel_rfl) (by kernel_rfl) (fun _ _ _ h => h) (Or.inl ⟨by rfl, ?_⟩) (by assumption) ?_
            rotate_left
            · (intro w_ hS_; (try dsimp only at hS_); go_simp; try with_reducible rfl)
            try simp only [Act.put, List.setIfInBounds_toArray, List.set_cons_zero, List.set_cons_succ]
            refine wpAnyH_take (i := 1) (oi := ⟨some 72, .move (.tmp 2), 3, "law.go:137", #[], none⟩) (v := ?_) rfl (by kernel_rfl) (by kernel_rfl) (by kernel_rfl) (fun _ _ _ h => h) (Or.inl ⟨by rfl, ?_⟩) (by assumption) ?_
            rotate_left
            · (intro w_ hS_; (try dsimp only at hS_); go_simp; try with_reducible rfl)
            try simp only [Act.put, List.setIfInBounds_toArray, List.set_cons_zero, List.set_cons_succ]
            refine wpAnyH_take (i := 2) (oi := ⟨some 73, .binOp .add 3 (.tmp 71) (.tmp 72) 3, 3, "law.go:137", #[⟨0, .data⟩, ⟨1, .data⟩], none⟩) (v := ?_) rfl (by kernel_rfl) (by kernel_rfl) (by kernel_rfl) (fun _ _ _ h => h) (Or.inl ⟨by rfl, ?_⟩) (by assumption) ?_
            rotate_left
            · (intro w_ hS_; (try dsimp only at hS_); go_simp; try with_reducible rfl)
            try simp only [Act.put, List.setIfInBounds_toArray, List.set_cons_zero, List.set_cons_succ]
            refine wpAnyH_take (i := 3) (oi := ⟨some 74, .move (.tmp 0), 22, "law.go:137", #[], none⟩) (v := ?_) rfl (by kernel_rfl) (by kernel_rfl) (by kernel_rfl) (fun _ _ _ h => h) (Or.inl ⟨by rfl, ?_⟩) (by assumption) ?_
            rotate_left
            · (intro w_ hS_; (try dsimp only at hS_); go_simp; try with_reducible rfl)
            try simp only [Act.put, List.setIfInBounds_toArray, List.set_cons_zero, List.set_cons_succ]
            refine wpAnyH_take (i := 4) (oi := ⟨some 75, .move (.tmp 14), 3, "law.go:137", #[], none⟩) (v := ?_) rfl (by kernel_rfl) (by kernel_rfl) (by kernel_rfl) (fun _ _ _ h => h) (Or.inl ⟨by rfl, ?_⟩) (by assumption) ?_
            rotate_left
            · (intro w_ hS_; (try dsimp only at hS_); go_simp; try with_reducible rfl)
            try simp only [Act.put, List.setIfInBounds_toArray, List.set_cons_zero, List.set_cons_succ]
            refine wpAnyH_take (i := 5) (oi := ⟨some 76, .indexAddr 22 (.tmp 74) (.tmp 75), 0, "law.go:137", #[⟨3, .data⟩, ⟨4, .data⟩], none⟩) (v := ?_) rfl (by kernel_rfl) (by kernel_rfl) (by kernel_rfl) (fun _ _ _ h => h) (Or.inl ⟨by rfl, ?_⟩) (by assumption) ?_
            rotate_left
            · (intro w_ hS_; (try dsimp only at hS_); go_simp; try with_reducible rfl)
            try simp only [Act.put, List.setIfInBounds_toArray, List.set_cons_zero, List.set_cons_succ]
            refine wpAnyH_take (i := 6) (oi := ⟨some 77, .fieldAddr 33 (.tmp 76) 0, 0, "law.go:137", #[⟨5, .data⟩], none⟩) (v := ?_) rfl (by kernel_rfl) (by kernel_rfl) (by kernel_rfl) (fun _ _ _ h => h) (Or.inl ⟨by rfl, ?_⟩) (by assumption) ?_
            rotate_left
            · (intro w_ hS_; (try dsimp only at hS_); go_simp; try with_reducible rfl)
            try simp only [Act.put, List.setIfInBounds_toArray, List.set_cons_zero, List.set_cons_succ]
            refine wpAnyH_take (i := 7) (oi := ⟨some 78, .load 3 (.tmp 77), 3, "law.go:137", #[⟨6, .data⟩], none⟩) (v := ?_) rfl (by kernel_rfl) (by kernel_rfl) (by kernel_rfl) (fun _ _ _ h => h) (Or.inl ⟨by rfl, ?_⟩) (by assumption) ?_
            rotate_left
            · (intro w_ hS_; (try dsimp only at hS_); go_simp; try with_reducible rfl)
            try simp only [Act.put, List.setIfInBounds_toArray, List.set_cons_zero, List.set_cons_succ]
            refine wpAnyH_take (i := 8) (oi := ⟨some 79, .binOp .gtr 3 (.tmp 73) (.tmp 78) 3, 4, "law.go:137", #[⟨2, .data⟩, ⟨7, .data⟩], none⟩) (v := ?_) rfl (by kernel_rfl) (by kernel_rfl) (by kernel_rfl) (fun _ _ _ h => h) (Or.inl ⟨by rfl, ?_⟩) (by assumption) ?_
            rotate_left
            · (intro w_ hS_; (try dsimp only at hS_); go_simp; try with_reducible rfl)
            try simp only [Act.put, List.setIfInBounds_toArray, List.set_cons_zero, List.set_cons_succ]
            refine wpAnyH_take (i := 9) (oi := ⟨some 80, .move (.tmp 79), 4, "law.go:137", #[⟨8, .data⟩], none⟩) (v := ?_) rfl (by kernel_rfl) (by kernel_rfl) (by kernel_rfl) (fun _ _ _ h => h) (Or.inl ⟨by rfl, ?_⟩) (by assumption) ?_
            rotate_left
            · (intro w_ hS_; (try dsimp only at hS_); go_simp; try with_reducible rfl)
            try simp only [Act.put, List.setIfInBounds_toArray, List.set_cons_zero, List.set_cons_succ]
            refine wpAnyH_take (i := 10) (oi := ⟨some 81, .move (.tmp 1), 3, "law.go:137", #[⟨9, .guard⟩], some (9, true)⟩) (v := undef) rfl (by kernel_rfl) (by kernel_rfl) (by kernel_rfl) (fun _ _ _ h => h) (Or.inr ⟨by rfl, rfl⟩) (by assumption) ?_
            try simp only [Act.put, List.setIfInBounds_toArray, List.set_cons_zero, List.set_cons_succ]
            refine wpAnyH_take (i := 11) (oi := ⟨some 82, .move (.tmp 0), 22, "law.go:137", #[⟨9, .guard⟩], some (9, true)⟩) (v := undef) rfl (by kernel_rfl) (by kernel_rfl) (by kernel_rfl) (fun _ _ _ h => h) (Or.inr ⟨by rfl, rfl⟩) (by assumption) ?_
            try simp only [Act.put, List.setIfInBounds_toArray, List.set_cons_zero, List.set_cons_succ]
            refine wpAnyH_take (i := 12) (oi := ⟨some 83, .move (.tmp 14), 3, "law.go:137", #[⟨9, .guard⟩], some (9, true)⟩) (v := undef) rfl (by kernel_rfl) (by kernel_rfl) (by kernel_rfl) (fun _ _ _ h => h) (Or.inr ⟨by rfl, rfl⟩) (by assumption) ?_
            try simp only [Act.put, List.setIfInBounds_toArray, List.set_cons_zero, List.set_cons_succ]
            refine wpAnyH_take (i := 13) (oi := ⟨some 84, .indexAddr 22 (.tmp 82) (.tmp 83), 0, "law.go:137", #[⟨11, .data⟩, ⟨12, .data⟩, ⟨9, .guard⟩], some (9, true)⟩) (v := undef) rfl (by kernel_rfl) (by kernel_rfl) (by kernel_rfl) (fun _ _ _ h => h) (Or.inr ⟨by rfl, rfl⟩) (by assumption) ?_
            try simp only [Act.put, List.setIfInBounds_toArray, List.set_cons_zero, List.set_cons_succ]
            refine wpAnyH_take (i := 14) (oi := ⟨some 85, .fieldAddr 33 (.tmp 84) 0, 0, "law.go:137", #[⟨13, .data⟩, ⟨9, .guard⟩], some (9, true)⟩) (v := undef) rfl (by kernel_rfl) (by kernel_rfl) (by kernel_rfl) (fun _ _ _ h => h) (Or.inr ⟨by rfl, rfl⟩) (by assumption) ?_
            try simp only [Act.put, List.setIfInBounds_toArray, List.set_cons_zero, List.set_cons_succ]
            refine wpAnyH_take (i := 15) (oi := ⟨some 86, .load 3 (.tmp 85), 3, "law.go:137", #[⟨14, .data⟩, ⟨9, .guard⟩], some (9, true)⟩) (v := undef) rfl (by kernel_rfl) (by kernel_rfl) (by kernel_rfl) (fun _ _ _ h => h) (Or.inr ⟨by rfl, rfl⟩) (by assumption) ?_
            try simp only [Act.put, List.setIfInBounds_toArray, List.set_cons_zero, List.set_cons_succ]
            refine wpAnyH_take (i := 16) (oi := ⟨some 87, .move (.tmp 0), 22, "law.go:137", #[⟨9, .guard⟩], some (9, true)⟩) (v := undef) rfl (by kernel_rfl) (by kernel_rfl) (by kernel_rfl) (fun _ _ _ h => h) (Or.inr ⟨by rfl, rfl⟩) (by assumption) ?_
            try simp only [Act.put, List.setIfInBounds_toArray, List.set_cons_zero, List.set_cons_succ]
            refine wpAnyH_take (i := 17) (oi := ⟨some 88, .move (.tmp 14), 3, "law.go:137", #[⟨9, .guard⟩], some (9, true)⟩) (v := undef) rfl (by kernel_rfl) (by kernel_rfl) (by kernel_rfl) (fun _ _ _ h => h) (Or.inr ⟨by rfl, rfl⟩) (by assumption) ?_
            try simp only [Act.put, List.setIfInBounds_toArray, List.set_cons_zero, List.set_cons_succ]
            refine wpAnyH_take (i := 18) (oi := ⟨some 89, .indexAddr 22 (.tmp 87) (.tmp 88), 0, "law.go:137", #[⟨16, .data⟩, ⟨17, .data⟩, ⟨9, .guard⟩], some (9, true)⟩) (v := undef) rfl (by kernel_rfl) (by kernel_rfl) (by kernel_rfl) (fun _ _ _ h => h) (Or.inr ⟨by rfl, rfl⟩) (by assumption) ?_
            try simp only [Act.put, List.setIfInBounds_toArray, List.set_cons_zero, List.set_cons_succ]
            refine wpAnyH_take (i := 19) (oi := ⟨some 90, .fieldAddr 33 (.tmp 89) 1, 0, "law.go:137", #[⟨18, .data⟩, ⟨9, .guard⟩], some (9, true)⟩) (v := undef) rfl (by kernel_rfl) (by kernel_rfl) (by kernel_rfl) (fun _ _ _ h => h) (Or.inr ⟨by rfl, rfl⟩) (by assumption) ?_
            try simp only [Act.put, List.setIfInBounds_toArray, List.set_cons_zero, List.set_cons_succ]
            refine wpAnyH_take (i := 20) (oi := ⟨some 91, .load 3 (.tmp 90), 3, "law.go:137", #[⟨19, .data⟩, ⟨9, .guard⟩], some (9, true)⟩) (v := undef) rfl (by kernel_rfl) (by kernel_rfl) (by kernel_rfl) (fun _ _ _ h => h) (Or.inr ⟨by rfl, rfl⟩) (by assumption) ?_
            try simp only [Act.put, List.setIfInBounds_toArray, List.set_cons_zero, List.set_cons_succ]
            refine wpAnyH_take (i := 21) (oi := ⟨some 92, .binOp .add 3 (.tmp 86) (.tmp 91) 3, 3, "law.go:137", #[⟨15, .data⟩, ⟨20, .data⟩, ⟨9, .guard⟩], some (9, true)⟩) (v := undef) rfl (by kernel_rfl) (by kernel_rfl) (by kernel_rfl) (fun _ _ _ h => h) (Or.inr ⟨by rfl, rfl⟩) (by assumption) ?_
            try simp only [Act.put, List.setIfInBounds_toArray, List.set_cons_zero, List.set_cons_succ]
            refine wpAnyH_take (i := 22) (oi := ⟨some 93, .binOp .lss 3 (.tmp 81) (.tmp 92) 3, 4, "law.go:137", #[⟨10, .data⟩, ⟨21, .data⟩, ⟨9, .guard⟩], some (9, true)⟩) (v := undef) rfl (by kernel_rfl) (by kernel_rfl) (by kernel_rfl) (fun _ _ _ h => h) (Or.inr ⟨by rfl, rfl⟩) (by assumption) ?_
            try simp only [Act.put, List.setIfInBounds_toArray, List.set_cons_zero, List.set_cons_succ]
            refine wpAnyH_take (i := 23) (oi := ⟨some 94, .pick (.tmp 80) (.tmp 93) (.const (.bool false)), 4, "law.go:137", #[⟨9, .data⟩, ⟨22, .data⟩], none⟩) (v := ?_) rfl (by kernel_rfl) (by kernel_rfl) (by kernel_rfl) (fun _ _ _ h => h) (Or.inl ⟨by rfl, ?_⟩) (by assumption) ?_
            rotate_left
            · (intro w_ hS_; (try dsimp only at hS_); go_simp; try with_reducible rfl)
            try simp only [Act.put, List.setIfInBounds_toArray, List.set_cons_zero, List.set_cons_succ]
            refine wpAnyH_done (by kernel_rfl) ?_ _
            (try dsimp only at hHeld)
            go_split_ands
            have hBv : Below wr.heap.size wr v1.drew := by assumption
            have hBv1 : Below w.heap.size w v1.drew := bk hBr hBr.size hBv
            have hCv : Kd.C k33 v1.drew (some ad) n d := Kd.C_below hCr hBv
            go_wp2
            go_roundw
            case rel =>
              refine ⟨k + 1, by omega, ?_, congrArg (Value.int .i64) (by omega), hCv, hBv1⟩
              rw [HS.out, List.countP_append, List.countP_singleton, HO.out]
              exact congrArg (Value.int .i64) (by simp)
            case measure => simp [intOf]; omega
        · obtain rfl : n = k := by omega
          have hc1 : (d.take n).countP (ovP addr wd) = 1 := by rw [List.take_of_length_le (by omega)]; exact HCn.out
          have hc2 : (((d.take n).countP (ovP addr wd) : Nat) : Int) = 1 := by rw [hc1]; rfl
          rw [hc2]
          go_wp2
          go_ret
          exact ⟨rfl, hBr⟩
  · have hfn : fnd d' addr wd = (z33, 0, mayN TOP addr wd) := if_neg hm
    rw [hfn]
    generalize mayN TOP addr wd = en at *
    have he : (en != 0) = true := by simpa using hm
    go_wp2
    go_ret
    exact ⟨rfl, by go_simp⟩
end Go.Proofs.Ytjkbocejdjnfiaa.Bs
