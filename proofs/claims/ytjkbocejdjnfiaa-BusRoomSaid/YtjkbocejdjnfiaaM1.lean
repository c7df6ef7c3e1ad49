/- Several texts in one. -/
import Derived.Test.YtjkbocejdjnfiaaB8
import Derived.Test.YtjkbocejdjnfiaaWEqStruct
import Derived.Test.YtjkbocejdjnfiaaIAllx6
import Derived.Test.YtjkbocejdjnfiaaIAllx11
import Derived.Test.YtjkbocejdjnfiaaIAllx12
import Derived.Test.YtjkbocejdjnfiaaIAllx7
import Derived.Test.YtjkbocejdjnfiaaIAllx9
import Derived.Laws.CopyRow
import Derived.Deep.MidRow
namespace Go.Proofs.Ytjkbocejdjnfiaa.Bs
open Go.RowKit Go.Shelf Go.Proofs.Ytjkbocejdjnfiaa.IAll Go.Proofs.YtjkbocejdjnfiaaW.PrintWords Go.Proofs.YtjkbocejdjnfiaaW.PrintLast Go.Proofs.YtjkbocejdjnfiaaW.PrintMore
theorem eqS (d : Nat) (w : World) (s t : Sp) : (Op.equalIn (d + 2) 33 (.agg (ES s)) (.agg (ES t))).run Try.prog w = .ok (s.f0 == t.f0 && (s.f1 == t.f1 && (s.f2 == t.f2 && (s.f3 == t.f3)))) w := by
  unfold ES
  refine eqA_of Try.underlying33 (by kernel_rfl) ?_
  refine eqf_cons rfl (by go_simp; rfl) (by go_simp; rfl) (by go_simp) ?_
  refine eqf_cons rfl (by go_simp; rfl) (by go_simp; rfl) (by go_simp) ?_
  refine eqf_cons rfl (by go_simp; rfl) (by go_simp; rfl) (by go_simp) ?_
  exact eqf_last rfl (by go_simp; rfl) (by go_simp; rfl) (by go_simp)
theorem eqSS (d : Nat) (w : World) (s : Sp) : (Op.equalIn (d + 2) 33 (.agg (ES s)) (.agg (ES s))).run Try.prog w = .ok true w := by
  rw [eqS]; simp
attribute [local go_sem] Oper.semAt_some cell_row frozen_row isRow_setCell_eq rowAt_setCell_same rowAt_setCell_other isRow_alloc_eq rowAt_alloc rowAt_new rowAt_new' isRow_setRow_eq rowAt_setRow_same rowAt_setRow_other isRow_drew rowAt_drew size_setRow_ size_drew_ blk_ptr aggOf_agg below_alloc_e below_setCell_e below_setRow_e below_refl_e below_drew_r isRow_drewN rowAt_drewN below_drewN_e le_add_r asideP_alloc_e asideP_setCell_e asideP_setRow_e asideP_drew_e asideP_drewN_e asideP_refl_e cell_setRow_far cell_setCell_far cell_drew_ heap_setCell_far heap_setRow_far heap_drew_ ES_size ES_one ES_fold ES_0 ES_1 allOne_nil allOne_cons Value.oneCell'
attribute [local go_sem ↓] loadS storeS loadSg storeSg
def ovP (addr wd : Int) (y : Sp) : Bool := decide (y.f0 < addr + wd) && decide (addr < y.f0 + y.f1)
theorem apart {d : List Sp} (hs : Srt d) (hn : NoOvl d) {i j : Nat} (h : i < j) (hj : j < d.length) : (rd_T33 d i).f0 + (rd_T33 d i).f1 ≤ (rd_T33 d j).f0 := by
  have h1 := hn i (by omega)
  rcases (show i + 1 = j ∨ i + 1 < j by omega) with h2 | h2
  · rw [← h2]; exact h1
  · have h3 := hs (i + 1) j h2 hj
    omega
theorem rd_app {pre post : List Sp} {s : Sp} : rd_T33 (pre ++ s :: post) (pre.length : Nat) = s := by simp [rd_T33, List.getD_eq_getElem?_getD]
theorem rd_of_mem {d : List Sp} {y : Sp} (h : y ∈ d) : ∃ i : Nat, i < d.length ∧ rd_T33 d i = y := by
  obtain ⟨i, hi, rfl⟩ := List.mem_iff_getElem.1 h
  exact ⟨i, hi, by simp [rd_T33, List.getD_eq_getElem?_getD, List.getElem?_eq_getElem hi]⟩
theorem rd_left {pre post : List Sp} {i : Nat} (h : i < pre.length) : rd_T33 (pre ++ post) i = rd_T33 pre i := by
  simp [rd_T33, List.getD_eq_getElem?_getD, List.getElem?_append_left h]
theorem rd_right {pre post : List Sp} {s : Sp} {i : Nat} : rd_T33 (pre ++ s :: post) ((pre.length + 1 + i : Nat) : Int) = rd_T33 post i := by
  unfold rd_T33
  rw [Int.toNat_natCast, Int.toNat_natCast, List.getD_eq_getElem?_getD, List.getElem?_append_right (by omega), show pre.length + 1 + i - pre.length = i + 1 by omega, List.getElem?_cons_succ, ← List.getD_eq_getElem?_getD]
/-- of what is found alone the access holds an address -/
theorem one_count {d d' : List Sp} {addr wd : Int} {s : Sp} (hp : d'.Perm d) (hs : Srt d') (hn : NoOvl d') (hw : 1 ≤ wd) (hf : d'.find? (hit addr wd) = some s) : d.countP (ovP addr wd) = 1 := by
  rw [← hp.countP_eq]
  obtain ⟨hh, pre, post, rfl, -⟩ := List.find?_eq_some_iff_append.1 hf
  have hh' : s.f0 ≤ addr ∧ addr - s.f0 ≤ s.f1 - wd := by simpa [hit] using hh
  have h1 : pre.countP (ovP addr wd) = 0 := List.countP_eq_zero.2 (by
    intro y hy
    obtain ⟨i, hi, rfl⟩ := rd_of_mem hy
    have := apart hs hn (i := i) (j := pre.length) hi (by simp)
    rw [rd_app, rd_left hi] at this
    simp [ovP]
    omega)
  have h2 : post.countP (ovP addr wd) = 0 := List.countP_eq_zero.2 (by
    intro y hy
    obtain ⟨i, hi, rfl⟩ := rd_of_mem hy
    have := apart hs hn (i := pre.length) (j := pre.length + 1 + i) (by omega) (by simp; omega)
    rw [rd_app, rd_right] at this
    simp [ovP]
    omega)
  have h3 : ovP addr wd s = true := by simp [ovP]; omega
  rw [List.countP_append, List.countP_cons, h1, h2, h3]
  rfl
attribute [local go_sem high] eqSS
attribute [local go_sem] ES_z bne_self_eq_false
set_option maxRecDepth 100000 in
set_option maxHeartbeats 4000000 in
theorem one_law (A : Option Addr) (n c : Nat) (d : List Sp) (addr wd : Int) (w : World) (hr : Kd.C k33 w A n d) :
    Calls Try.prog 6 #[.slice A n c, .int .i64 addr, .int .i64 wd] w fun e w' => e = .returned (.bool true) ∧ Below w.heap.size w w' := by
  have hn : d.length = n := Kd.C_len hr
  have hmx := Kd.C_max hr
  go_enter Try.func6, Try.ntmps6
  go_wp2_with fail
  refine (awake_c w).mono ?_
  rintro e W1 ⟨rfl, hB1⟩
  have hC1 := Kd.C_below hr hB1
  clear hr
  go_wp2_with fail
  refine (New_c A n c d W1 hC1).mono ?_
  rintro e W2 ⟨v, r, rfl, hb2, ho⟩
  have hC2 := Kd.C_below hC1 hb2
  have hB2 : Below w.heap.size w W2 := bk hB1 hB1.size hb2
  have l1 := hB1.size
  clear hC1 hB1 hb2
  have hnil : v = .pointer none ∨ (¬ newBad d ∧ ∃ d' : List Sp, d'.Perm d ∧ Srt d' ∧ NoOvl d' ∧ ∃ g A' c', v = .pointer (some ⟨g, 0, none⟩) ∧ Row W2 g #[.slice A' n c'] ∧ Kd.C k33 W2 A' n d') := by
    rcases ho with ⟨-, h, -⟩ | ⟨hb, d', hp, hs, ⟨-, h, -⟩ | ⟨hno, -, g, A', c', h, -, hrow, -, hC, -⟩⟩
    · exact .inl h
    · exact .inl h
    · exact .inr ⟨hb, d', hp, hs, hno, g, A', c', h, hrow, hC⟩
  clear ho
  rcases hnil with rfl | ⟨hb, d', hp, hs, hno, g, A', c', rfl, hrow, hC⟩
  · go_wp2
    go_ret
    exact ⟨rfl, hB2⟩
  have hD : ∀ y ∈ d, Rgt y := fun y hy => by
    refine (right_rgt ?_).1
    cases h : rightB y with
    | true => rfl
    | false => exact absurd (.inr ⟨y, hy, h⟩) hb
  have hD' : ∀ y ∈ d', Rgt y := fun y hy => hD y (hp.mem_iff.1 hy)
  have HF := Lib.hid (Find_c A' n c' d' g addr wd W2 hrow hC hD')
  have lg := hrow.lt
  have l2 := hB2.size
  clear hb hC hrow
  go_wp2_with fail
  refine HF.out.mono ?_
  rintro e W3 ⟨rfl, hb3⟩
  have hC3 := Kd.C_below hC2 hb3
  have hB3 : Below w.heap.size w W3 := bk hB2 l2 hb3
  have l3 := hB3.size
  clear hC2 hB2 hb3 HF
  by_cases hm : mayN TOP addr wd = 0
  · obtain ⟨hw, ha0, ha1⟩ := may_ok (by decide) hm
    cases hf : d'.find? (hit addr wd) with
    | none =>
      have hfn : fnd d' addr wd = (z33, 0, 42) := by rw [fnd, if_pos hm, hf]
      rw [hfn]
      go_wp2
      go_ret
      exact ⟨rfl, by go_simp⟩
    | some s =>
      have hfn : fnd d' addr wd = (s, addr - s.f0, 0) := by rw [fnd, if_pos hm, hf]
      rw [hfn]
      dsimp only
      have hsm : s ∈ d' := List.mem_of_find?_eq_some hf
      obtain ⟨s0', s1', s2'⟩ := hD' s hsm
      have hh : s.f0 ≤ addr ∧ addr - s.f0 ≤ s.f1 - wd := by simpa [hit] using List.find?_some hf
      have hcnt := one_count hp hs hno (by omega) hf
      have HCn := Lib.hid hcnt
      unfold TOP at *
      have w1 : IntKind.i64.wrap (s.f0 + (addr - s.f0)) = addr := by rw [show s.f0 + (addr - s.f0) = addr by omega]; exact IntWalk.i64_in _ (by omega)
      have w1' : IntKind.i64.wrap addr = addr := IntWalk.i64_in _ (by omega)
      have w2 : IntKind.i64.wrap (addr - s.f0 + wd) = addr - s.f0 + wd := IntWalk.i64_in _ (by omega)
      have w3 : IntKind.i64.wrap (addr + wd) = addr + wd := IntWalk.i64_in _ (by omega)
      have q1 : decide (addr - s.f0 < 0) = false := decide_eq_false (by omega)
      have q2 : decide (s.f1 < addr - s.f0 + wd) = false := decide_eq_false (by omega)
      have hmx2 : d.length ≤ 9223372036854775807 := by omega
      have HD := Lib.hid hD
      clear hcnt hf hfn hm hD hD' hp hs hno hh hsm
      go_wp2
      go_loopw [13, 14] (fun p q wr => ∃ k : Nat, k ≤ n ∧ p = .int .i64 ((d.take k).countP (ovP addr wd)) ∧ q = .int .i64 k ∧ Kd.C k33 wr A n d ∧ Below w.heap.size w wr) (fun _ q _ => n - (intOf q).toNat)
      case atStart =>
        have hba : Below W3.heap.size W3 ((W3.alloc (.cells (ES z33) 33)).setRow W3.heap.size (ES s)) := below_setRow ((Below.refl _ W3).alloc (Nat.le_refl _) _) (Nat.le_refl _) _
        exact ⟨0, by omega, rfl, rfl, Kd.C_below hC3 hba, bk hB3 l3 hba⟩
      case round =>
        obtain ⟨k, hk, rfl, rfl, hCr, hBr⟩ := hrel
        clear hC3 hB3
        by_cases hlt : k < n
        · have k1 : (k : Int) < n := by omega
          have k0 : (0 : Int) ≤ k := by omega
          obtain ⟨ad, e, hx0, hx1, hx2, hx3⟩ := at_T33 hCr (k : Int) k0 k1
          cases e
          rw [Int.toNat_natCast] at hx0 hx1 hx2 hx3
          clear hx2 hx3
          obtain ⟨z0, z1, z2⟩ := HD.out _ (rd_mem (d := d) (k := k) (by omega))
          unfold TOP at z2
          have w4 : IntKind.i64.wrap ((rd_T33 d k).f0 + (rd_T33 d k).f1) = (rd_T33 d k).f0 + (rd_T33 d k).f1 := IntWalk.i64_in _ (by omega)
          have hcl : (d.take k).countP (ovP addr wd) ≤ k := Nat.le_trans List.countP_le_length (by simp; omega)
          have w5 : IntKind.i64.wrap (((d.take k).countP (ovP addr wd) : Int) + 1) = ((d.take k).countP (ovP addr wd) : Int) + 1 := IntWalk.i64_in _ (by omega)
          have HS := Lib.hid (take_next (d := d) (k := k) (by omega))
          by_cases h1 : (rd_T33 d k).f0 < addr + wd
          · by_cases h2 : addr < (rd_T33 d k).f0 + (rd_T33 d k).f1
            · skip
              have HO := Lib.hid (show ovP addr wd (rd_T33 d k) = true by rw [ovP]; simp; omega)
              have q3 := decide_eq_true h1
              have q4 := decide_eq_true h2
              clear h1 h2
              have hB_0 : Below wr.heap.size wr wr := Below.refl _ _
              go_wp2_with fail
              refine wp_named (fun W_ => W_.cell? (ad.add (k * 4)) = some (.int .i64 (rd_T33 d k).f0) ∧ W_.cell? { block := (ad.add (k * 4)).block, off := (ad.add (k * 4)).off + 1 } = some (.int .i64 (rd_T33 d k).f1) ∧ Below wr.heap.size wr W_) (by refine ⟨by first | assumption | (go_simp; done) | exact hx0, by first | assumption | (go_simp; done) | exact hx1, by go_simp⟩) ?_
              rintro v1 ⟨al0_1, al1_1, hB_1⟩
              clear hB_0 hx0 hx1
              have hz_1 : wr.heap.size ≤ v1.heap.size := hB_1.size
              refine wp_region_held_drew (S := fun w' => w'.cell? (ad.add (k * 4)) = some (.int .i64 (rd_T33 d k).f0) ∧ w'.cell? { block := (ad.add (k * 4)).block, off := (ad.add (k * 4)).off + 1 } = some (.int .i64 (rd_T33 d k).f1) ∧ Below wr.heap.size wr w') (by kernel_rfl) ⟨by first | exact al0_1 | (go_simp; done), by first | exact al1_1 | (go_simp; done), by go_simp⟩ (fun hHeld => ?_)
              refine wpAnyH_take (i := 0) (oi := ⟨some 71, .move (.tmp 1), 3, "law.go:137", #[], none⟩) (v := ?_) rfl (by kernel_rfl) (by kernel_rfl) (by kernel_rfl) (fun _ _ _ h => h) (Or.inl ⟨by rfl, ?_⟩) (by assumption) ?_
              rotate_left
              · (intro w_ hS_; (try dsimp only at hS_); go_simp; try with_reducible rfl)
              try simp only [Act.put, List.setIfInBounds_toArray, List.set_cons_zero, List.set_cons_succ]
              refine wpAnyH_take (i := 1) (oi := ⟨some 72, .move (.tmp 2), 3, "law.go:137", #[], none⟩) (v := ?_) rfl (by kernel_rfl) (by kernel_rfl) (by kernel_rfl) (fun _ _ _ h => h) (Or.inl ⟨by rfl, ?_⟩) (by assumption) ?_
              rotate_left
              · (intro w_ hS_; (try dsimp only at hS_); go_simp; try with_reducible rfl)
              try simp only [Act.put, List.setIfInBounds_toArray, List.set_cons_zero, List.set_cons_succ]
              refine wpAnyH_take (i := 2) (oi := ⟨some 73, .binOp .add 3 (.tmp 71) (.tmp 72) 3, 3, "law.go:137", #[⟨0, .data⟩, ⟨1, .data⟩], none⟩) (v := ?_) rfl (by kernel_rfl) (by kernel_rfl) (by kernel_rfl) (fun _ _ _ h => h) (Or.inl ⟨by rfl, ?_⟩) (by assumption) ?_
              rotate_left
              · (intro w_ hS_; (try dsimp only at hS_); go_simp; try with_reducible rfl)
              try simp only [Act.put, List.setIfInBounds_toArray, List.set_cons_zero, List.set_cons_succ]
              refine wpAnyH_take (i := 3) (oi := ⟨some 74, .move (.tmp 0), 22, "law.go:137", #[], none⟩) (v := ?_) rfl (by kernel_rfl) (by kernel_rfl) (by kernel_rfl) (fun _ _ _ h => h) (Or.inl ⟨by rfl, ?_⟩) (by assumption) ?_
              rotate_left
              · (intro w_ hS_; (try dsimp only at hS_); go_simp; try with_reducible rfl)
              try simp only [Act.put, List.setIfInBounds_toArray, List.set_cons_zero, List.set_cons_succ]
              refine wpAnyH_take (i := 4) (oi := ⟨some 75, .move (.tmp 14), 3, "law.go:137", #[], none⟩) (v := ?_) rfl (by kernel_rfl) (by kernel_rfl) (by kernel_rfl) (fun _ _ _ h => h) (Or.inl ⟨by rfl, ?_⟩) (by assumption) ?_
              rotate_left
              · (intro w_ hS_; (try dsimp only at hS_); go_simp; try with_reducible rfl)
              try simp only [Act.put, List.setIfInBounds_toArray, List.set_cons_zero, List.set_cons_succ]
              refine wpAnyH_take (i := 5) (oi := ⟨some 76, .indexAddr 22 (.tmp 74) (.tmp 75), 0, "law.go:137", #[⟨3, .data⟩, ⟨4, .data⟩], none⟩) (v := ?_) rfl (by kernel_rfl) (by kernel_rfl) (by kernel_rfl) (fun _ _ _ h => h) (Or.inl ⟨by rfl, ?_⟩) (by assumption) ?_
              rotate_left
              · (intro w_ hS_; (try dsimp only at hS_); go_simp; try with_reducible rfl)
              try simp only [Act.put, List.setIfInBounds_toArray, List.set_cons_zero, List.set_cons_succ]
              refine wpAnyH_take (i := 6) (oi := ⟨some 77, .fieldAddr 33 (.tmp 76) 0, 0, "law.go:137", #[⟨5, .data⟩], none⟩) (v := ?_) rfl (by kernel_rfl) (by kernel_rfl) (by kernel_rfl) (fun _ _ _ h => h) (Or.inl ⟨by rfl, ?_⟩) (by assumption) ?_
              rotate_left
              · (intro w_ hS_; (try dsimp only at hS_); go_simp; try with_reducible rfl)
              try simp only [Act.put, List.setIfInBounds_toArray, List.set_cons_zero, List.set_cons_succ]
              refine wpAnyH_take (i := 7) (oi := ⟨some 78, .load 3 (.tmp 77), 3, "law.go:137", #[⟨6, .data⟩], none⟩) (v := ?_) rfl (by kernel_rfl) (by kernel_rfl) (by kernel_rfl) (fun _ _ _ h => h) (Or.inl ⟨by rfl, ?_⟩) (by assumption) ?_
              rotate_left
              · (intro w_ hS_; (try dsimp only at hS_); go_simp; try with_reducible rfl)
              try simp only [Act.put, List.setIfInBounds_toArray, List.set_cons_zero, List.set_cons_succ]
              refine wpAnyH_take (i := 8) (oi := ⟨some 79, .binOp .gtr 3 (.tmp 73) (.tmp 78) 3, 4, "law.go:137", #[⟨2, .data⟩, ⟨7, .data⟩], none⟩) (v := ?_) rfl (by kernel_rfl) (by kernel_rfl) (by kernel_rfl) (fun _ _ _ h => h) (Or.inl ⟨by rfl, ?_⟩) (by assumption) ?_
              rotate_left
              · (intro w_ hS_; (try dsimp only at hS_); go_simp; try with_reducible rfl)
              try simp only [Act.put, List.setIfInBounds_toArray, List.set_cons_zero, List.set_cons_succ]
              refine wpAnyH_take (i := 9) (oi := ⟨some 80, .move (.tmp 79), 4, "law.go:137", #[⟨8, .data⟩], none⟩) (v := ?_) rfl (by kernel_rfl) (by kernel_rfl) (by kernel_rfl) (fun _ _ _ h => h) (Or.inl ⟨by rfl, ?_⟩) (by assumption) ?_
              rotate_left
              · (intro w_ hS_; (try dsimp only at hS_); go_simp; try with_reducible rfl)
              try simp only [Act.put, List.setIfInBounds_toArray, List.set_cons_zero, List.set_cons_succ]
              refine wpAnyH_take (i := 10) (oi := ⟨some 81, .move (.tmp 1), 3, "law.go:137", #[⟨9, .guard⟩], some (9, true)⟩) (v := ?_) rfl (by kernel_rfl) (by kernel_rfl) (by kernel_rfl) (fun _ _ _ h => h) (Or.inl ⟨by rfl, ?_⟩) (by assumption) ?_
              rotate_left
              · (intro w_ hS_; (try dsimp only at hS_); go_simp; try with_reducible rfl)
              try simp only [Act.put, List.setIfInBounds_toArray, List.set_cons_zero, List.set_cons_succ]
              refine wpAnyH_take (i := 11) (oi := ⟨some 82, .move (.tmp 0), 22, "law.go:137", #[⟨9, .guard⟩], some (9, true)⟩) (v := ?_) rfl (by kernel_rfl) (by kernel_rfl) (by kernel_rfl) (fun _ _ _ h => h) (Or.inl ⟨by rfl, ?_⟩) (by assumption) ?_
              rotate_left
              · (intro w_ hS_; (try dsimp only at hS_); go_simp; try with_reducible rfl)
              try simp only [Act.put, List.setIfInBounds_toArray, List.set_cons_zero, List.set_cons_succ]
              refine wpAnyH_take (i := 12) (oi := ⟨some 83, .move (.tmp 14), 3, "law.go:137", #[⟨9, .guard⟩], some (9, true)⟩) (v := ?_) rfl (by kernel_rfl) (by kernel_rfl) (by kernel_rfl) (fun _ _ _ h => h) (Or.inl ⟨by rfl, ?_⟩) (by assumption) ?_
              rotate_left
              · (intro w_ hS_; (try dsimp only at hS_); go_simp; try with_reducible rfl)
              try simp only [Act.put, List.setIfInBounds_toArray, List.set_cons_zero, List.set_cons_succ]
              refine wpAnyH_take (i := 13) (oi := ⟨some 84, .indexAddr 22 (.tmp 82) (.tmp 83), 0, "law.go:137", #[⟨11, .data⟩, ⟨12, .data⟩, ⟨9, .guard⟩], some (9, true)⟩) (v := ?_) rfl (by kernel_rfl) (by kernel_rfl) (by kernel_rfl) (fun _ _ _ h => h) (Or.inl ⟨by rfl, ?_⟩) (by assumption) ?_
              rotate_left
              · (intro w_ hS_; (try dsimp only at hS_); go_simp; try with_reducible rfl)
              try simp only [Act.put, List.setIfInBounds_toArray, List.set_cons_zero, List.set_cons_succ]
              refine wpAnyH_take (i := 14) (oi := ⟨some 85, .fieldAddr 33 (.tmp 84) 0, 0, "law.go:137", #[⟨13, .data⟩, ⟨9, .guard⟩], some (9, true)⟩) (v := ?_) rfl (by kernel_rfl) (by kernel_rfl) (by kernel_rfl) (fun _ _ _ h => h) (Or.inl ⟨by rfl, ?_⟩) (by assumption) ?_
              rotate_left
              · (intro w_ hS_; (try dsimp only at hS_); go_simp; try with_reducible rfl)
              try simp only [Act.put, List.setIfInBounds_toArray, List.set_cons_zero, List.set_cons_succ]
              refine wpAnyH_take (i := 15) (oi := ⟨some 86, .load 3 (.tmp 85), 3, "law.go:137", #[⟨14, .data⟩, ⟨9, .guard⟩], some (9, true)⟩) (v := ?_) rfl (by kernel_rfl) (by kernel_rfl) (by kernel_rfl) (fun _ _ _ h => h) (Or.inl ⟨by rfl, ?_⟩) (by assumption) ?_
              rotate_left
              · (intro w_ hS_; (try dsimp only at hS_); go_simp; try with_reducible rfl)
              try simp only [Act.put, List.setIfInBounds_toArray, List.set_cons_zero, List.set_cons_succ]
              refine wpAnyH_take (i := 16) (oi := ⟨some 87, .move (.tmp 0), 22, "law.go:137", #[⟨9, .guard⟩], some (9, true)⟩) (v := ?_) rfl (by kernel_rfl) (by kernel_rfl) (by kernel_rfl) (fun _ _ _ h => h) (Or.inl ⟨by rfl, ?_⟩) (by assumption) ?_
              rotate_left
              · (intro w_ hS_; (try dsimp only at hS_); go_simp; try with_reducible rfl)
              try simp only [Act.put, List.setIfInBounds_toArray, List.set_cons_zero, List.set_cons_succ]
              refine wpAnyH_take (i := 17) (oi := ⟨some 88, .move (.tmp 14), 3, "law.go:137", #[⟨9, .guard⟩], some (9, true)⟩) (v := ?_) rfl (by kernel_rfl) (by kernel_rfl) (by kernel_rfl) (fun _ _ _ h => h) (Or.inl ⟨by rfl, ?_⟩) (by assumption) ?_
              rotate_left
              · (intro w_ hS_; (try dsimp only at hS_); go_simp; try with_reducible rfl)
              try simp only [Act.put, List.setIfInBounds_toArray, List.set_cons_zero, List.set_cons_succ]
              refine wpAnyH_take (i := 18) (oi := ⟨some 89, .indexAddr 22 (.tmp 87) (.tmp 88), 0, "law.go:137", #[⟨16, .data⟩, ⟨17, .data⟩, ⟨9, .guard⟩], some (9, true)⟩) (v := ?_) rfl (by kernel_rfl) (by kernel_rfl) (by kernel_rfl) (fun _ _ _ h => h) (Or.inl ⟨by rfl, ?_⟩) (by assumption) ?_
              rotate_left
              · (intro w_ hS_; (try dsimp only at hS_); go_simp; try with_reducible rfl)
              try simp only [Act.put, List.setIfInBounds_toArray, List.set_cons_zero, List.set_cons_succ]
              refine wpAnyH_take (i := 19) (oi := ⟨some 90, .fieldAddr 33 (.tmp 89) 1, 0, "law.go:137", #[⟨18, .data⟩, ⟨9, .guard⟩], some (9, true)⟩) (v := ?_) rfl (by kernel_rfl) (by kernel_rfl) (by kernel_rfl) (fun _ _ _ h => h) (Or.inl ⟨by rfl, ?_⟩) (by assumption) ?_
              rotate_left
              · (intro w_ hS_; (try dsimp only at hS_); go_simp; try with_reducible rfl)
              try simp only [Act.put, List.setIfInBounds_toArray, List.set_cons_zero, List.set_cons_succ]
              refine wpAnyH_take (i := 20) (oi := ⟨some 91, .load 3 (.tmp 90), 3, "law.go:137", #[⟨19, .data⟩, ⟨9, .guard⟩], some (9, true)⟩) (v := ?_) rfl (by kernel_rfl) (by kernel_rfl) (by kernel_rfl) (fun _ _ _ h => h) (Or.inl ⟨by rfl, ?_⟩) (by assumption) ?_
              rotate_left
              · (intro w_ hS_; (try dsimp only at hS_); go_simp; try with_reducible rfl)
              try simp only [Act.put, List.setIfInBounds_toArray, List.set_cons_zero, List.set_cons_succ]
              refine wpAnyH_take (i := 21) (oi := ⟨some 92, .binOp .add 3 (.tmp 86) (.tmp 91) 3, 3, "law.go:137", #[⟨15, .data⟩, ⟨20, .data⟩, ⟨9, .guard⟩], some (9, true)⟩) (v := ?_) rfl (by kernel_rfl) (by kernel_rfl) (by kernel_rfl) (fun _ _ _ h => h) (Or.inl ⟨by rfl, ?_⟩) (by assumption) ?_
              rotate_left
              · (intro w_ hS_; (try dsimp only at hS_); go_simp; try with_reducible rfl)
              try simp only [Act.put, List.setIfInBounds_toArray, List.set_cons_zero, List.set_cons_succ]
              refine wpAnyH_take (i := 22) (oi := ⟨some 93, .binOp .lss 3 (.tmp 81) (.tmp 92) 3, 4, "law.go:137", #[⟨10, .data⟩, ⟨21, .data⟩, ⟨9, .guard⟩], some (9, true)⟩) (v := ?_) rfl (by kernel_rfl) (by kernel_rfl) (by kernel_rfl) (fun _ _ _ h => h) (Or.inl ⟨by rfl, ?_⟩) (by assumption) ?_
              rotate_left
              · (intro w_ hS_; (try dsimp only at hS_); go_simp; try with_reducible rfl)
              try simp only [Act.put, List.setIfInBounds_toArray, List.set_cons_zero, List.set_cons_succ]
              refine wpAnyH_take (i := 23) (oi := ⟨some 94, .pick (.tmp 80) (.tmp 93) (.const (.bool false)), 4, "law.go:137", #[⟨9, .data⟩, ⟨22, .data⟩], none⟩) (v := ?_) rfl (by kernel_rfl) (by kernel_rfl) (by kernel_rfl) (fun _ _ _ h => h) (Or.inl ⟨by rfl, ?_⟩) (by assumption) ?_
              rotate_left
              · (intro w_ hS_; (try dsimp only at hS_); go_simp; try with_reducible rfl)
              try simp only [Act.put, List.setIfInBounds_toArray, List.set_cons_zero, List.set_cons_succ]
              refine wpAnyH_done (by kernel_rfl) ?_ _
              (try dsimp only at hHeld)
              go_split_ands
              have hBv : Below wr.heap.size wr v1.drew := by assumption
              have hBv1 : Below w.heap.size w v1.drew := bk hBr hBr.size hBv
              have hCv : Kd.C k33 v1.drew (some ad) n d := Kd.C_below hCr hBv
              go_wp2
              go_roundw
              case rel =>
                refine ⟨k + 1, by omega, ?_, congrArg (Value.int .i64) (by omega), hCv, hBv1⟩
                rw [HS.out, List.countP_append, List.countP_singleton, HO.out]
                exact congrArg (Value.int .i64) (by simp)
              case measure => simp [intOf]; omega
            · skip
              have HO := Lib.hid (show ovP addr wd (rd_T33 d k) = false by rw [ovP]; simp; omega)
              have q3 := decide_eq_true h1
              have q4 := decide_eq_false h2
              clear h1 h2
              have hB_0 : Below wr.heap.size wr wr := Below.refl _ _
              go_wp2_with fail
              refine wp_named (fun W_ => W_.cell? (ad.add (k * 4)) = some (.int .i64 (rd_T33 d k).f0) ∧ W_.cell? { block := (ad.add (k * 4)).block, off := (ad.add (k * 4)).off + 1 } = some (.int .i64 (rd_T33 d k).f1) ∧ Below wr.heap.size wr W_) (by refine ⟨by first | assumption | (go_simp; done) | exact hx0, by first | assumption | (go_simp; done) | exact hx1, by go_simp⟩) ?_
              rintro v1 ⟨al0_1, al1_1, hB_1⟩
              clear hB_0 hx0 hx1
              have hz_1 : wr.heap.size ≤ v1.heap.size := hB_1.size
              refine wp_region_held_drew (S := fun w' => w'.cell? (ad.add (k * 4)) = some (.int .i64 (rd_T33 d k).f0) ∧ w'.cell? { block := (ad.add (k * 4)).block, off := (ad.add (k * 4)).off + 1 } = some (.int .i64 (rd_T33 d k).f1) ∧ Below wr.heap.size wr w') (by kernel_rfl) ⟨by first | exact al0_1 | (go_simp; done), by first | exact al1_1 | (go_simp; done), by go_simp⟩ (fun hHeld => ?_)
              refine wpAnyH_take (i := 0) (oi := ⟨some 71, .move (.tmp 1), 3, "law.go:137", #[], none⟩) (v := ?_) rfl (by kernel_rfl) (by kernel_rfl) (by kernel_rfl) (fun _ _ _ h => h) (Or.inl ⟨by rfl, ?_⟩) (by assumption) ?_
              rotate_left
              · (intro w_ hS_; (try dsimp only at hS_); go_simp; try with_reducible rfl)
              try simp only [Act.put, List.setIfInBounds_toArray, List.set_cons_zero, List.set_cons_succ]
              refine wpAnyH_take (i := 1) (oi := ⟨some 72, .move (.tmp 2), 3, "law.go:137", #[], none⟩) (v := ?_) rfl (by kernel_rfl) (by kernel_rfl) (by kernel_rfl) (fun _ _ _ h => h) (Or.inl ⟨by rfl, ?_⟩) (by assumption) ?_
              rotate_left
              · (intro w_ hS_; (try dsimp only at hS_); go_simp; try with_reducible rfl)
              try simp only [Act.put, List.setIfInBounds_toArray, List.set_cons_zero, List.set_cons_succ]
              refine wpAnyH_take (i := 2) (oi := ⟨some 73, .binOp .add 3 (.tmp 71) (.tmp 72) 3, 3, "law.go:137", #[⟨0, .data⟩, ⟨1, .data⟩], none⟩) (v := ?_) rfl (by kernel_rfl) (by kernel_rfl) (by kernel_rfl) (fun _ _ _ h => h) (Or.inl ⟨by rfl, ?_⟩) (by assumption) ?_
              rotate_left
              · (intro w_ hS_; (try dsimp only at hS_); go_simp; try with_reducible rfl)
              try simp only [Act.put, List.setIfInBounds_toArray, List.set_cons_zero, List.set_cons_succ]
              refine wpAnyH_take (i := 3) (oi := ⟨some 74, .move (.tmp 0), 22, "law.go:137", #[], none⟩) (v := ?_) rfl (by kernel_rfl) (by kernel_rfl) (by kernel_rfl) (fun _ _ _ h => h) (Or.inl ⟨by rfl, ?_⟩) (by assumption) ?_
              rotate_left
              · (intro w_ hS_; (try dsimp only at hS_); go_simp; try with_reducible rfl)
              try simp only [Act.put, List.setIfInBounds_toArray, List.set_cons_zero, List.set_cons_succ]
              refine wpAnyH_take (i := 4) (oi := ⟨some 75, .move (.tmp 14), 3, "law.go:137", #[], none⟩) (v := ?_) rfl (by kernel_rfl) (by kernel_rfl) (by kernel_rfl) (fun _ _ _ h => h) (Or.inl ⟨by rfl, ?_⟩) (by assumption) ?_
              rotate_left
              · (intro w_ hS_; (try dsimp only at hS_); go_simp; try with_reducible rfl)
              try simp only [Act.put, List.setIfInBounds_toArray, List.set_cons_zero, List.set_cons_succ]
              refine wpAnyH_take (i := 5) (oi := ⟨some 76, .indexAddr 22 (.tmp 74) (.tmp 75), 0, "law.go:137", #[⟨3, .data⟩, ⟨4, .data⟩], none⟩) (v := ?_) rfl (by kernel_rfl) (by kernel_rfl) (by kernel_rfl) (fun _ _ _ h => h) (Or.inl ⟨by rfl, ?_⟩) (by assumption) ?_
              rotate_left
              · (intro w_ hS_; (try dsimp only at hS_); go_simp; try with_reducible rfl)
              try simp only [Act.put, List.setIfInBounds_toArray, List.set_cons_zero, List.set_cons_succ]
              refine wpAnyH_take (i := 6) (oi := ⟨some 77, .fieldAddr 33 (.tmp 76) 0, 0, "law.go:137", #[⟨5, .data⟩], none⟩) (v := ?_) rfl (by kernel_rfl) (by kernel_rfl) (by kernel_rfl) (fun _ _ _ h => h) (Or.inl ⟨by rfl, ?_⟩) (by assumption) ?_
              rotate_left
              · (intro w_ hS_; (try dsimp only at hS_); go_simp; try with_reducible rfl)
              try simp only [Act.put, List.setIfInBounds_toArray, List.set_cons_zero, List.set_cons_succ]
              refine wpAnyH_take (i := 7) (oi := ⟨some 78, .load 3 (.tmp 77), 3, "law.go:137", #[⟨6, .data⟩], none⟩) (v := ?_) rfl (by kernel_rfl) (by kernel_rfl) (by kernel_rfl) (fun _ _ _ h => h) (Or.inl ⟨by rfl, ?_⟩) (by assumption) ?_
              rotate_left
              · (intro w_ hS_; (try dsimp only at hS_); go_simp; try with_reducible rfl)
              try simp only [Act.put, List.setIfInBounds_toArray, List.set_cons_zero, List.set_cons_succ]
              refine wpAnyH_take (i := 8) (oi := ⟨some 79, .binOp .gtr 3 (.tmp 73) (.tmp 78) 3, 4, "law.go:137", #[⟨2, .data⟩, ⟨7, .data⟩], none⟩) (v := ?_) rfl (by kernel_rfl) (by kernel_rfl) (by kernel_rfl) (fun _ _ _ h => h) (Or.inl ⟨by rfl, ?_⟩) (by assumption) ?_
              rotate_left
              · (intro w_ hS_; (try dsimp only at hS_); go_simp; try with_reducible rfl)
              try simp only [Act.put, List.setIfInBounds_toArray, List.set_cons_zero, List.set_cons_succ]
              refine wpAnyH_take (i := 9) (oi := ⟨some 80, .move (.tmp 79), 4, "law.go:137", #[⟨8, .data⟩], none⟩) (v := ?_) rfl (by kernel_rfl) (by kernel_rfl) (by kernel_rfl) (fun _ _ _ h => h) (Or.inl ⟨by rfl, ?_⟩) (by assumption) ?_
              rotate_left
              · (intro w_ hS_; (try dsimp only at hS_); go_simp; try with_reducible rfl)
              try simp only [Act.put, List.setIfInBounds_toArray, List.set_cons_zero, List.set_cons_succ]
              refine wpAnyH_take (i := 10) (oi := ⟨some 81, .move (.tmp 1), 3, "law.go:137", #[⟨9, .guard⟩], some (9, true)⟩) (v := ?_) rfl (by kernel_rfl) (by kernel_rfl) (by kernel_rfl) (fun _ _ _ h => h) (Or.inl ⟨by rfl, ?_⟩) (by assumption) ?_
              rotate_left
              · (intro w_ hS_; (try dsimp only at hS_); go_simp; try with_reducible rfl)
              try simp only [Act.put, List.setIfInBounds_toArray, List.set_cons_zero, List.set_cons_succ]
              refine wpAnyH_take (i := 11) (oi := ⟨some 82, .move (.tmp 0), 22, "law.go:137", #[⟨9, .guard⟩], some (9, true)⟩) (v := ?_) rfl (by kernel_rfl) (by kernel_rfl) (by kernel_rfl) (fun _ _ _ h => h) (Or.inl ⟨by rfl, ?_⟩) (by assumption) ?_
              rotate_left
              · (intro w_ hS_; (try dsimp only at hS_); go_simp; try with_reducible rfl)
              try simp only [Act.put, List.setIfInBounds_toArray, List.set_cons_zero, List.set_cons_succ]
              refine wpAnyH_take (i := 12) (oi := ⟨some 83, .move (.tmp 14), 3, "law.go:137", #[⟨9, .guard⟩], some (9, true)⟩) (v := ?_) rfl (by kernel_rfl) (by kernel_rfl) (by kernel_rfl) (fun _ _ _ h => h) (Or.inl ⟨by rfl, ?_⟩) (by assumption) ?_
              rotate_left
              · (intro w_ hS_; (try dsimp only at hS_); go_simp; try with_reducible rfl)
              try simp only [Act.put, List.setIfInBounds_toArray, List.set_cons_zero, List.set_cons_succ]
              refine wpAnyH_take (i := 13) (oi := ⟨some 84, .indexAddr 22 (.tmp 82) (.tmp 83), 0, "law.go:137", #[⟨11, .data⟩, ⟨12, .data⟩, ⟨9, .guard⟩], some (9, true)⟩) (v := ?_) rfl (by kernel_rfl) (by kernel_rfl) (by kernel_rfl) (fun _ _ _ h => h) (Or.inl ⟨by rfl, ?_⟩) (by assumption) ?_
              rotate_left
              · (intro w_ hS_; (try dsimp only at hS_); go_simp; try with_reducible rfl)
              try simp only [Act.put, List.setIfInBounds_toArray, List.set_cons_zero, List.set_cons_succ]
              refine wpAnyH_take (i := 14) (oi := ⟨some 85, .fieldAddr 33 (.tmp 84) 0, 0, "law.go:137", #[⟨13, .data⟩, ⟨9, .guard⟩], some (9, true)⟩) (v := ?_) rfl (by kernel_rfl) (by kernel_rfl) (by kernel_rfl) (fun _ _ _ h => h) (Or.inl ⟨by rfl, ?_⟩) (by assumption) ?_
              rotate_left
              · (intro w_ hS_; (try dsimp only at hS_); go_simp; try with_reducible rfl)
              try simp only [Act.put, List.setIfInBounds_toArray, List.set_cons_zero, List.set_cons_succ]
              refine wpAnyH_take (i := 15) (oi := ⟨some 86, .load 3 (.tmp 85), 3, "law.go:137", #[⟨14, .data⟩, ⟨9, .guard⟩], some (9, true)⟩) (v := ?_) rfl (by kernel_rfl) (by kernel_rfl) (by kernel_rfl) (fun _ _ _ h => h) (Or.inl ⟨by rfl, ?_⟩) (by assumption) ?_
              rotate_left
              · (intro w_ hS_; (try dsimp only at hS_); go_simp; try with_reducible rfl)
              try simp only [Act.put, List.setIfInBounds_toArray, List.set_cons_zero, List.set_cons_succ]
              refine wpAnyH_take (i := 16) (oi := ⟨some 87, .move (.tmp 0), 22, "law.go:137", #[⟨9, .guard⟩], some (9, true)⟩) (v := ?_) rfl (by kernel_rfl) (by kernel_rfl) (by kernel_rfl) (fun _ _ _ h => h) (Or.inl ⟨by rfl, ?_⟩) (by assumption) ?_
              rotate_left
              · (intro w_ hS_; (try dsimp only at hS_); go_simp; try with_reducible rfl)
              try simp only [Act.put, List.setIfInBounds_toArray, List.set_cons_zero, List.set_cons_succ]
              refine wpAnyH_take (i := 17) (oi := ⟨some 88, .move (.tmp 14), 3, "law.go:137", #[⟨9, .guard⟩], some (9, true)⟩) (v := ?_) rfl (by kernel_rfl) (by kernel_rfl) (by kernel_rfl) (fun _ _ _ h => h) (Or.inl ⟨by rfl, ?_⟩) (by assumption) ?_
              rotate_left
              · (intro w_ hS_; (try dsimp only at hS_); go_simp; try with_reducible rfl)
              try simp only [Act.put, List.setIfInBounds_toArray, List.set_cons_zero, List.set_cons_succ]
              refine wpAnyH_take (i := 18) (oi := ⟨some 89, .indexAddr 22 (.tmp 87) (.tmp 88), 0, "law.go:137", #[⟨16, .data⟩, ⟨17, .data⟩, ⟨9, .guard⟩], some (9, true)⟩) (v := ?_) rfl (by kernel_rfl) (by kernel_rfl) (by kernel_rfl) (fun _ _ _ h => h) (Or.inl ⟨by rfl, ?_⟩) (by assumption) ?_
              rotate_left
              · (intro w_ hS_; (try dsimp only at hS_); go_simp; try with_reducible rfl)
              try simp only [Act.put, List.setIfInBounds_toArray, List.set_cons_zero, List.set_cons_succ]
              refine wpAnyH_take (i := 19) (oi := ⟨some 90, .fieldAddr 33 (.tmp 89) 1, 0, "law.go:137", #[⟨18, .data⟩, ⟨9, .guard⟩], some (9, true)⟩) (v := ?_) rfl (by kernel_rfl) (by kernel_rfl) (by kernel_rfl) (fun _ _ _ h => h) (Or.inl ⟨by rfl, ?_⟩) (by assumption) ?_
              rotate_left
              · (intro w_ hS_; (try dsimp only at hS_); go_simp; try with_reducible rfl)
              try simp only [Act.put, List.setIfInBounds_toArray, List.set_cons_zero, List.set_cons_succ]
              refine wpAnyH_take (i := 20) (oi := ⟨some 91, .load 3 (.tmp 90), 3, "law.go:137", #[⟨19, .data⟩, ⟨9, .guard⟩], some (9, true)⟩) (v := ?_) rfl (by kernel_rfl) (by kernel_rfl) (by kernel_rfl) (fun _ _ _ h => h) (Or.inl ⟨by rfl, ?_⟩) (by assumption) ?_
              rotate_left
              · (intro w_ hS_; (try dsimp only at hS_); go_simp; try with_reducible rfl)
              try simp only [Act.put, List.setIfInBounds_toArray, List.set_cons_zero, List.set_cons_succ]
              refine wpAnyH_take (i := 21) (oi := ⟨some 92, .binOp .add 3 (.tmp 86) (.tmp 91) 3, 3, "law.go:137", #[⟨15, .data⟩, ⟨20, .data⟩, ⟨9, .guard⟩], some (9, true)⟩) (v := ?_) rfl (by kernel_rfl) (by kernel_rfl) (by kernel_rfl) (fun _ _ _ h => h) (Or.inl ⟨by rfl, ?_⟩) (by assumption) ?_
              rotate_left
              · (intro w_ hS_; (try dsimp only at hS_); go_simp; try with_reducible rfl)
              try simp only [Act.put, List.setIfInBounds_toArray, List.set_cons_zero, List.set_cons_succ]
              refine wpAnyH_take (i := 22) (oi := ⟨some 93, .binOp .lss 3 (.tmp 81) (.tmp 92) 3, 4, "law.go:137", #[⟨10, .data⟩, ⟨21, .data⟩, ⟨9, .guard⟩], some (9, true)⟩) (v := ?_) rfl (by kernel_rfl) (by kernel_rfl) (by kernel_rfl) (fun _ _ _ h => h) (Or.inl ⟨by rfl, ?_⟩) (by assumption) ?_
              rotate_left
              · (intro w_ hS_; (try dsimp only at hS_); go_simp; try with_reducible rfl)
              try simp only [Act.put, List.setIfInBounds_toArray, List.set_cons_zero, List.set_cons_succ]
              refine wpAnyH_take (i := 23) (oi := ⟨some 94, .pick (.tmp 80) (.tmp 93) (.const (.bool false)), 4, "law.go:137", #[⟨9, .data⟩, ⟨22, .data⟩], none⟩) (v := ?_) rfl (by kernel_rfl) (by kernel_rfl) (by kernel_rfl) (fun _ _ _ h => h) (Or.inl ⟨by rfl, ?_⟩) (by assumption) ?_
              rotate_left
              · (intro w_ hS_; (try dsimp only at hS_); go_simp; try with_reducible rfl)
              try simp only [Act.put, List.setIfInBounds_toArray, List.set_cons_zero, List.set_cons_succ]
              refine wpAnyH_done (by kernel_rfl) ?_ _
              (try dsimp only at hHeld)
              go_split_ands
              have hBv : Below wr.heap.size wr v1.drew := by assumption
              have hBv1 : Below w.heap.size w v1.drew := bk hBr hBr.size hBv
              have hCv : Kd.C k33 v1.drew (some ad) n d := Kd.C_below hCr hBv
              go_wp2
              go_roundw
              case rel =>
                refine ⟨k + 1, by omega, ?_, congrArg (Value.int .i64) (by omega), hCv, hBv1⟩
                rw [HS.out, List.countP_append, List.countP_singleton, HO.out]
                exact congrArg (Value.int .i64) (by simp)
              case measure => simp [intOf]; omega
          · skip
            have HO := Lib.hid (show ovP addr wd (rd_T33 d k) = false by rw [ovP]; simp; omega)
            have q3 := decide_eq_false h1
            clear h1
            have hB_0 : Below wr.heap.size wr wr := Below.refl _ _
            go_wp2_with fail
            refine wp_named (fun W_ => W_.cell? (ad.add (k * 4)) = some (.int .i64 (rd_T33 d k).f0) ∧ W_.cell? { block := (ad.add (k * 4)).block, off := (ad.add (k * 4)).off + 1 } = some (.int .i64 (rd_T33 d k).f1) ∧ Below wr.heap.size wr W_) (by refine ⟨by first | assumption | (go_simp; done) | exact hx0, by first | assumption | (go_simp; done) | exact hx1, by go_simp⟩) ?_
            rintro v1 ⟨al0_1, al1_1, hB_1⟩
            clear hB_0 hx0 hx1
            have hz_1 : wr.heap.size ≤ v1.heap.size := hB_1.size
            refine wp_region_held_drew (S := fun w' => w'.cell? (ad.add (k * 4)) = some (.int .i64 (rd_T33 d k).f0) ∧ w'.cell? { block := (ad.add (k * 4)).block, off := (ad.add (k * 4)).off + 1 } = some (.int .i64 (rd_T33 d k).f1) ∧ Below wr.heap.size wr w') (by kernel_rfl) ⟨by first | exact al0_1 | (go_simp; done), by first | exact al1_1 | (go_simp; done), by go_simp⟩ (fun hHeld => ?_)
            refine wpAnyH_take (i := 0) (oi := ⟨some 71, .move (.tmp 1), 3, "law.go:137", #[], none⟩) (v := ?_) rfl (by kernel_rfl) (by kernel_rfl) (by kernel_rfl) (fun _ _ _ h => h) (Or.inl ⟨by rfl, ?_⟩) (by assumption) ?_
            rotate_left
            · (intro w_ hS_; (try dsimp only at hS_); go_simp; try with_reducible rfl)
            try simp only [Act.put, List.setIfInBounds_toArray, List.set_cons_zero, List.set_cons_succ]
            refine wpAnyH_take (i := 1) (oi := ⟨some 72, .move (.tmp 2), 3, "law.go:137", #[], none⟩) (v := ?_) rfl (by kernel_rfl) (by kernel_rfl) (by kernel_rfl) (fun _ _ _ h => h) (Or.inl ⟨by rfl, ?_⟩) (by assumption) ?_
            rotate_left
            · (intro w_ hS_; (try dsimp only at hS_); go_simp; try with_reducible rfl)
            try simp only [Act.put, List.setIfInBounds_toArray, List.set_cons_zero, List.set_cons_succ]
            refine wpAnyH_take (i := 2) (oi := ⟨some 73, .binOp .add 3 (.tmp 71) (.tmp 72) 3, 3, "law.go:137", #[⟨0, .data⟩, ⟨1, .data⟩], none⟩) (v := ?_) rfl (by kernel_rfl) (by kernel_rfl) (by kernel_rfl) (fun _ _ _ h => h) (Or.inl ⟨by rfl, ?_⟩) (by assumption) ?_
            rotate_left
            · (intro w_ hS_; (try dsimp only at hS_); go_simp; try with_reducible rfl)
            try simp only [Act.put, List.setIfInBounds_toArray, List.set_cons_zero, List.set_cons_succ]
            refine wpAnyH_take (i := 3) (oi := ⟨some 74, .move (.tmp 0), 22, "law.go:137", #[], none⟩) (v := ?_) rfl (by kernel_rfl) (by kernel_rfl) (by kernel_rfl) (fun _ _ _ h => h) (Or.inl ⟨by rfl, ?_⟩) (by assumption) ?_
            rotate_left
            · (intro w_ hS_; (try dsimp only at hS_); go_simp; try with_reducible rfl)
            try simp only [Act.put, List.setIfInBounds_toArray, List.set_cons_zero, List.set_cons_succ]
            refine wpAnyH_take (i := 4) (oi := ⟨some 75, .move (.tmp 14), 3, "law.go:137", #[], none⟩) (v := ?_) rfl (by kernel_rfl) (by kernel_rfl) (by kernel_rfl) (fun _ _ _ h => h) (Or.inl ⟨by rfl, ?_⟩) (by assumption) ?_
            rotate_left
            · (intro w_ hS_; (try dsimp only at hS_); go_simp; try with_reducible rfl)
            try simp only [Act.put, List.setIfInBounds_toArray, List.set_cons_zero, List.set_cons_succ]
            refine wpAnyH_take (i := 5) (oi := ⟨some 76, .indexAddr 22 (.tmp 74) (.tmp 75), 0, "law.go:137", #[⟨3, .data⟩, ⟨4, .data⟩], none⟩) (v := ?_) rfl (by kernel_rfl) (by kernel_rfl) (by kernel_rfl) (fun _ _ _ h => h) (Or.inl ⟨by rfl, ?_⟩) (by assumption) ?_
            rotate_left
            · (intro w_ hS_; (try dsimp only at hS_); go_simp; try with_reducible rfl)
            try simp only [Act.put, List.setIfInBounds_toArray, List.set_cons_zero, List.set_cons_succ]
            refine wpAnyH_take (i := 6) (oi := ⟨some 77, .fieldAddr 33 (.tmp 76) 0, 0, "law.go:137", #[⟨5, .data⟩], none⟩) (v := ?_) rfl (by kernel_rfl) (by kernel_rfl) (by kernel_rfl) (fun _ _ _ h => h) (Or.inl ⟨by rfl, ?_⟩) (by assumption) ?_
            rotate_left
            · (intro w_ hS_; (try dsimp only at hS_); go_simp; try with_reducible rfl)
            try simp only [Act.put, List.setIfInBounds_toArray, List.set_cons_zero, List.set_cons_succ]
            refine wpAnyH_take (i := 7) (oi := ⟨some 78, .load 3 (.tmp 77), 3, "law.go:137", #[⟨6, .data⟩], none⟩) (v := ?_) rfl (by kernel_rfl) (by kernel_rfl) (by kernel_rfl) (fun _ _ _ h => h) (Or.inl ⟨by rfl, ?_⟩) (by assumption) ?_
            rotate_left
            · (intro w_ hS_; (try dsimp only at hS_); go_simp; try with_reducible rfl)
            try simp only [Act.put, List.setIfInBounds_toArray, List.set_cons_zero, List.set_cons_succ]
            refine wpAnyH_take (i := 8) (oi := ⟨some 79, .binOp .gtr 3 (.tmp 73) (.tmp 78) 3, 4, "law.go:137", #[⟨2, .data⟩, ⟨7, .data⟩], none⟩) (v := ?_) rfl (by kernel_rfl) (by kernel_rfl) (by kernel_rfl) (fun _ _ _ h => h) (Or.inl ⟨by rfl, ?_⟩) (by assumption) ?_
            rotate_left
            · (intro w_ hS_; (try dsimp only at hS_); go_simp; try with_reducible rfl)
            try simp only [Act.put, List.setIfInBounds_toArray, List.set_cons_zero, List.set_cons_succ]
            refine wpAnyH_take (i := 9) (oi := ⟨some 80, .move (.tmp 79), 4, "law.go:137", #[⟨8, .data⟩], none⟩) (v := ?_) rfl (by kernel_rfl) (by kernel_rfl) (by kernel_rfl) (fun _ _ _ h => h) (Or.inl ⟨by rfl, ?_⟩) (by assumption) ?_
            rotate_left
            · (intro w_ hS_; (try dsimp only at hS_); go_simp; try with_reducible rfl)
            try simp only [Act.put, List.setIfInBounds_toArray, List.set_cons_zero, List.set_cons_succ]
            refine wpAnyH_take (i := 10) (oi := ⟨some 81, .move (.tmp 1), 3, "law.go:137", #[⟨9, .guard⟩], some (9, true)⟩) (v := undef) rfl (by kernel_rfl) (by kernel_rfl) (by kernel_rfl) (fun _ _ _ h => h) (Or.inr ⟨by rfl, rfl⟩) (by assumption) ?_
            try simp only [Act.put, List.setIfInBounds_toArray, List.set_cons_zero, List.set_cons_succ]
            refine wpAnyH_take (i := 11) (oi := ⟨some 82, .move (.tmp 0), 22, "law.go:137", #[⟨9, .guard⟩], some (9, true)⟩) (v := undef) rfl (by kernel_rfl) (by kernel_rfl) (by kernel_rfl) (fun _ _ _ h => h) (Or.inr ⟨by rfl, rfl⟩) (by assumption) ?_
            try simp only [Act.put, List.setIfInBounds_toArray, List.set_cons_zero, List.set_cons_succ]
            refine wpAnyH_take (i := 12) (oi := ⟨some 83, .move (.tmp 14), 3, "law.go:137", #[⟨9, .guard⟩], some (9, true)⟩) (v := undef) rfl (by kernel_rfl) (by kernel_rfl) (by kernel_rfl) (fun _ _ _ h => h) (Or.inr ⟨by rfl, rfl⟩) (by assumption) ?_
            try simp only [Act.put, List.setIfInBounds_toArray, List.set_cons_zero, List.set_cons_succ]
            refine wpAnyH_take (i := 13) (oi := ⟨some 84, .indexAddr 22 (.tmp 82) (.tmp 83), 0, "law.go:137", #[⟨11, .data⟩, ⟨12, .data⟩, ⟨9, .guard⟩], some (9, true)⟩) (v := undef) rfl (by kernel_rfl) (by kernel_rfl) (by kernel_rfl) (fun _ _ _ h => h) (Or.inr ⟨by rfl, rfl⟩) (by assumption) ?_
            try simp only [Act.put, List.setIfInBounds_toArray, List.set_cons_zero, List.set_cons_succ]
            refine wpAnyH_take (i := 14) (oi := ⟨some 85, .fieldAddr 33 (.tmp 84) 0, 0, "law.go:137", #[⟨13, .data⟩, ⟨9, .guard⟩], some (9, true)⟩) (v := undef) rfl (by kernel_rfl) (by kernel_rfl) (by kernel_rfl) (fun _ _ _ h => h) (Or.inr ⟨by rfl, rfl⟩) (by assumption) ?_
            try simp only [Act.put, List.setIfInBounds_toArray, List.set_cons_zero, List.set_cons_succ]
            refine wpAnyH_take (i := 15) (oi := ⟨some 86, .load 3 (.tmp 85), 3, "law.go:137", #[⟨14, .data⟩, ⟨9, .guard⟩], some (9, true)⟩) (v := undef) rfl (by kernel_rfl) (by kernel_rfl) (by kernel_rfl) (fun _ _ _ h => h) (Or.inr ⟨by rfl, rfl⟩) (by assumption) ?_
            try simp only [Act.put, List.setIfInBounds_toArray, List.set_cons_zero, List.set_cons_succ]
            refine wpAnyH_take (i := 16) (oi := ⟨some 87, .move (.tmp 0), 22, "law.go:137", #[⟨9, .guard⟩], some (9, true)⟩) (v := undef) rfl (by kernel_rfl) (by kernel_rfl) (by kernel_rfl) (fun _ _ _ h => h) (Or.inr ⟨by rfl, rfl⟩) (by assumption) ?_
            try simp only [Act.put, List.setIfInBounds_toArray, List.set_cons_zero, List.set_cons_succ]
            refine wpAnyH_take (i := 17) (oi := ⟨some 88, .move (.tmp 14), 3, "law.go:137", #[⟨9, .guard⟩], some (9, true)⟩) (v := undef) rfl (by kernel_rfl) (by kernel_rfl) (by kernel_rfl) (fun _ _ _ h => h) (Or.inr ⟨by rfl, rfl⟩) (by assumption) ?_
            try simp only [Act.put, List.setIfInBounds_toArray, List.set_cons_zero, List.set_cons_succ]
            refine wpAnyH_take (i := 18) (oi := ⟨some 89, .indexAddr 22 (.tmp 87) (.tmp 88), 0, "law.go:137", #[⟨16, .data⟩, ⟨17, .data⟩, ⟨9, .guard⟩], some (9, true)⟩) (v := undef) rfl (by kernel_rfl) (by kernel_rfl) (by kernel_rfl) (fun _ _ _ h => h) (Or.inr ⟨by rfl, rfl⟩) (by assumption) ?_
            try simp only [Act.put, List.setIfInBounds_toArray, List.set_cons_zero, List.set_cons_succ]
            refine wpAnyH_take (i := 19) (oi := ⟨some 90, .fieldAddr 33 (.tmp 89) 1, 0, "law.go:137", #[⟨18, .data⟩, ⟨9, .guard⟩], some (9, true)⟩) (v := undef) rfl (by kernel_rfl) (by kernel_rfl) (by kernel_rfl) (fun _ _ _ h => h) (Or.inr ⟨by rfl, rfl⟩) (by assumption) ?_
            try simp only [Act.put, List.setIfInBounds_toArray, List.set_cons_zero, List.set_cons_succ]
            refine wpAnyH_take (i := 20) (oi := ⟨some 91, .load 3 (.tmp 90), 3, "law.go:137", #[⟨19, .data⟩, ⟨9, .guard⟩], some (9, true)⟩) (v := undef) rfl (by kernel_rfl) (by kernel_rfl) (by kernel_rfl) (fun _ _ _ h => h) (Or.inr ⟨by rfl, rfl⟩) (by assumption) ?_
            try simp only [Act.put, List.setIfInBounds_toArray, List.set_cons_zero, List.set_cons_succ]
            refine wpAnyH_take (i := 21) (oi := ⟨some 92, .binOp .add 3 (.tmp 86) (.tmp 91) 3, 3, "law.go:137", #[⟨15, .data⟩, ⟨20, .data⟩, ⟨9, .guard⟩], some (9, true)⟩) (v := undef) rfl (by kernel_rfl) (by kernel_rfl) (by kernel_rfl) (fun _ _ _ h => h) (Or.inr ⟨by rfl, rfl⟩) (by assumption) ?_
            try simp only [Act.put, List.setIfInBounds_toArray, List.set_cons_zero, List.set_cons_succ]
            refine wpAnyH_take (i := 22) (oi := ⟨some 93, .binOp .lss 3 (.tmp 81) (.tmp 92) 3, 4, "law.go:137", #[⟨10, .data⟩, ⟨21, .data⟩, ⟨9, .guard⟩], some (9, true)⟩) (v := undef) rfl (by kernel_rfl) (by kernel_rfl) (by kernel_rfl) (fun _ _ _ h => h) (Or.inr ⟨by rfl, rfl⟩) (by assumption) ?_
            try simp only [Act.put, List.setIfInBounds_toArray, List.set_cons_zero, List.set_cons_succ]
            refine wpAnyH_take (i := 23) (oi := ⟨some 94, .pick (.tmp 80) (.tmp 93) (.const (.bool false)), 4, "law.go:137", #[⟨9, .data⟩, ⟨22, .data⟩], none⟩) (v := ?_) rfl (by kernel_rfl) (by kernel_rfl) (by kernel_rfl) (fun _ _ _ h => h) (Or.inl ⟨by rfl, ?_⟩) (by assumption) ?_
            rotate_left
            · (intro w_ hS_; (try dsimp only at hS_); go_simp; try with_reducible rfl)
            try simp only [Act.put, List.setIfInBounds_toArray, List.set_cons_zero, List.set_cons_succ]
            refine wpAnyH_done (by kernel_rfl) ?_ _
            (try dsimp only at hHeld)
            go_split_ands
            have hBv : Below wr.heap.size wr v1.drew := by assumption
            have hBv1 : Below w.heap.size w v1.drew := bk hBr hBr.size hBv
            have hCv : Kd.C k33 v1.drew (some ad) n d := Kd.C_below hCr hBv
            go_wp2
            go_roundw
            case rel =>
              refine ⟨k + 1, by omega, ?_, congrArg (Value.int .i64) (by omega), hCv, hBv1⟩
              rw [HS.out, List.countP_append, List.countP_singleton, HO.out]
              exact congrArg (Value.int .i64) (by simp)
            case measure => simp [intOf]; omega
        · obtain rfl : n = k := by omega
          have hc1 : (d.take n).countP (ovP addr wd) = 1 := by rw [List.take_of_length_le (by omega)]; exact HCn.out
          have hc2 : (((d.take n).countP (ovP addr wd) : Nat) : Int) = 1 := by rw [hc1]; rfl
          rw [hc2]
          go_wp2
          go_ret
          exact ⟨rfl, hBr⟩
  · have hfn : fnd d' addr wd = (z33, 0, mayN TOP addr wd) := if_neg hm
    rw [hfn]
    generalize mayN TOP addr wd = en at *
    have he : (en != 0) = true := by simpa using hm
    go_wp2
    go_ret
    exact ⟨rfl, by go_simp⟩
end Go.Proofs.Ytjkbocejdjnfiaa.Bs

namespace Go.Proofs.Ytjkbocejdjnfiaa.Bs
open Go.RowKit Go.Shelf Go.Proofs.Ytjkbocejdjnfiaa.IAll Go.Proofs.YtjkbocejdjnfiaaW.PrintWords Go.Proofs.YtjkbocejdjnfiaaW.PrintLast Go.Proofs.YtjkbocejdjnfiaaW.PrintMore
attribute [local go_sem] Oper.semAt_some cell_row frozen_row isRow_setCell_eq rowAt_setCell_same rowAt_setCell_other isRow_alloc_eq rowAt_alloc rowAt_new rowAt_new' isRow_setRow_eq rowAt_setRow_same rowAt_setRow_other isRow_drew rowAt_drew size_setRow_ size_drew_ blk_ptr aggOf_agg below_alloc_e below_setCell_e below_setRow_e below_refl_e below_drew_r isRow_drewN rowAt_drewN below_drewN_e le_add_r asideP_alloc_e asideP_setCell_e asideP_setRow_e asideP_drew_e asideP_drewN_e asideP_refl_e cell_setRow_far cell_setCell_far cell_drew_ heap_setCell_far heap_setRow_far heap_drew_ ES_size ES_one ES_fold ES_0 ES_1 allOne_nil allOne_cons Value.oneCell'
attribute [local go_sem ↓] loadS storeS loadSg storeSg
def EL' (s : Sp) : List Value := [.int .i64 s.f0, .int .i64 s.f1, .int .i64 s.f2, .int .i64 s.f3]
def flE (d : List Sp) : List Value := d.flatMap EL'
theorem flE_snoc (d : List Sp) (x : Sp) : flE (d ++ [x]) = flE d ++ EL' x := by simp [flE]
theorem flE_at : ∀ (d : List Sp) (j i : Nat) (p : Sp), d[j]? = some p → i < 4 → (flE d)[j * 4 + i]? = (EL' p)[i]?
  | [], j, i, p, h, _ => by simp at h
  | x :: r, 0, i, p, h, hi => by
    obtain rfl : x = p := by simpa using h
    show (EL' x ++ flE r)[0 * 4 + i]? = _
    rw [Nat.zero_mul, Nat.zero_add, List.getElem?_append_left (by simpa [EL'] using hi)]
  | x :: r, j + 1, i, p, h, hi => by
    have h' : r[j]? = some p := by simpa using h
    show (EL' x ++ flE r)[(j + 1) * 4 + i]? = _
    rw [List.getElem?_append_right (by simp [EL']; omega), show (j + 1) * 4 + i - (EL' x).length = j * 4 + i by simp [EL']; omega]
    exact flE_at r j i p h' hi
theorem flE_len (d : List Sp) : (flE d).length = d.length * 4 := by
  unfold flE
  induction d with
  | nil => rfl
  | cons x r ih => rw [List.flatMap_cons, List.length_append, ih, List.length_cons]; simp [EL']; omega
theorem own_kd {W : World} {b : Nat} {v : Value} {d : List Sp} (h : W.ownsRow b 33 4 v d.length (flE d)) (hm : d.length ≤ 9223372036854775807) : ∃ A c, v = .slice A d.length c ∧ d.length ≤ c ∧ Kd.C k33 W A d.length d := by
  rcases h.2 with ⟨rfl, h0⟩ | ⟨g, cap, cur, rfl, hg, hh, hcap, hmax, hcs, htk⟩
  · have h0' : d = [] := List.length_eq_zero_iff.1 h0
    subst h0'
    exact ⟨none, 0, rfl, Nat.le_refl _, Kd.C_nil _ _⟩
  · refine ⟨some ⟨g, 0, none⟩, cap, rfl, hcap, rfl, hm, fun _ => ⟨⟨g, 0, none⟩, rfl, fun j p hq => ⟨EL' p, rfl, k33_mk W p, fun i u hu => ?_⟩⟩⟩
    have hi : i < 4 := by have := (List.getElem?_eq_some_iff.1 hu).1; simpa [EL'] using this
    have hj : j < d.length := (List.getElem?_eq_some_iff.1 hq).1
    have hrow : Row W g cur := Row.of (t := 33) hh
    show W.cell? ((⟨g, 0, none⟩ : Addr).add (j * 4 + i)) = _
    rw [addr_at, cell_row hrow.1, hrow.2]
    have h1 := flE_at d j i p hq hi
    rw [← htk, List.getElem?_take_of_lt (by omega)] at h1
    rw [← Array.getElem?_toList, h1]
    exact hu
theorem cell_four_new (w : World) (x : Sp) (t : TypeId) : ∀ j u, (EL' x)[j]? = some u → (w.alloc (.cells (ES x) t)).cell? ((⟨w.heap.size, 0, none⟩ : Addr).add j) = some u := by
  intro j u hj
  rw [addr_at, cell_row (isRow_new), rowAt_new]
  unfold ES
  unfold EL' at hj
  simpa using hj
def CA (a b k : Nat) (o : Obj) : Prop := k = a ∨ (b ≤ k ∧ ∃ cur, o = .cells cur 33)
def IA (a b : Nat) (w : World) (pre : List Sp) (W : World) : Prop := (∃ v, Boxed W a 22 v ∧ W.ownsRow b 33 4 v pre.length (flE pre)) ∧ Below w.heap.size w W ∧ b ≤ W.heap.size
theorem own_cells {W : World} {b n : Nat} {v : Value} {xs : List Value} (h : W.ownsRow b 33 4 v n xs) : ∀ k, v.ownBlock = some k → b ≤ k ∧ ∃ cur, W.heap[k]? = some (.cells cur 33 (0, 0)) := by
  intro k hk
  rcases h.2 with ⟨rfl, -⟩ | ⟨g, cap, cur, rfl, hg, hh, hcap, hmax, hcs, htk⟩
  · simp [Value.ownBlock] at hk
  · have hkg : g = k := by simpa [Value.ownBlock] using hk
    subst hkg
    exact ⟨hg, cur, hh⟩
set_option maxRecDepth 100000 in
set_option maxHeartbeats 4000000 in
theorem all_c (A : Option Addr) (n c : Nat) (d : List Sp) (g : Nat) (w : World) (hg : Row w g #[.slice A n c]) (hr : Kd.C k33 w A n d) (h32 : n ≤ 64) :
    Calls Try.prog 15 #[.pointer (some ⟨g, 0, none⟩)] w fun en w' => ∃ A' c', en = .returned (.slice A' d.length c') ∧ d.length ≤ c' ∧ Kd.C k33 w' A' d.length d ∧ Below w.heap.size w w' := by
  obtain ⟨i0, hi, hz0, hz1, hz2⟩ := info_parts infoL
  refine calls_of_wide ?_
  refine callsIn_of_wp_marks Try.func15 rfl trivial ?_ rfl
  simp only [Try.ntmps15, List.size_toArray, List.length_cons, List.length_nil, Nat.reduceAdd, Nat.reduceSub, Array.replicate_succ, Array.replicate_zero, List.push_toArray, List.append_toArray, List.nil_append, List.cons_append]
  have lg := hg.lt
  have hn : d.length = n := Kd.C_len hr
  have hA : ∀ ad, A = some ad → 0 < n → ad.block < w.heap.size := by
    rintro ad rfl h0
    exact Kd.C_lt hr h0 (by decide)
  gi_wp2_with fail
  refine (in_of_calls (Spans_c g _)).mono ?_
  rintro en W9 ⟨rfl, rfl⟩
  have hB1 : Below w.heap.size w (w.alloc (.cells #[.slice none 0 0] 22)) := (Below.refl _ w).alloc (Nat.le_refl _) _
  have b1 : Boxed (w.alloc (.cells #[.slice none 0 0] 22)) w.heap.size 22 (.slice none 0 0) := Boxed.new w _ _
  have hs1 : (w.alloc (.cells #[.slice none 0 0] 22)).heap.size = w.heap.size + 1 := by simp
  generalize w.alloc (.cells #[.slice none 0 0] 22) = W1 at *
  have hsz1 : w.heap.size < W1.heap.size := by omega
  have hb2 : Below w.heap.size w (W1.alloc (.cells #[.pointer (some ⟨g, 0, none⟩)] 24)) := hB1.alloc (by omega) _
  have y1 : Boxed (W1.alloc (.cells #[.pointer (some ⟨g, 0, none⟩)] 24)) w.heap.size 22 (.slice none 0 0) := b1.alloc _
  have y5 : Row (W1.alloc (.cells #[.pointer (some ⟨g, 0, none⟩)] 24)) W1.heap.size #[.pointer (some ⟨g, 0, none⟩)] := Row.new W1 _ _
  have y7 : Row (W1.alloc (.cells #[.pointer (some ⟨g, 0, none⟩)] 24)) g #[.slice A n c] := hg.below hb2 lg
  have hs3 : (W1.alloc (.cells #[.pointer (some ⟨g, 0, none⟩)] 24)).heap.size = W1.heap.size + 1 := by simp
  have hrC := Kd.C_below hr hb2
  unfold SpansV
  generalize W1.alloc (.cells #[.pointer (some ⟨g, 0, none⟩)] 24) = W3 at *
  have hsz3 : W1.heap.size < W3.heap.size := by omega
  clear b1 hB1 hs1 hs3
  gi_wp2_with fail
  have hit : Iter NoCells Try.prog 35 #[.pointer (some ⟨W1.heap.size, 0, none⟩)] (fun x : Sp => #[.agg (ES x)]) (KeepC (CA w.heap.size W3.heap.size)) d W3 := by
    refine spans_iter NoCells (CA w.heap.size W3.heap.size) A n c d W1.heap.size g W3 ?_ ?_ ?_ y5 y7 hrC
    · rintro t (h | ⟨h, -⟩) <;> omega
    · rintro t (h | ⟨h, -⟩) <;> omega
    · intro ad e0 h0 o h
      have := hA ad e0 h0
      rcases h with h | ⟨h, -⟩ <;> omega
  refine wp_range (Pv := NoCells) (fun _ h => h) rfl (enters_of Try.func35 (by kernel_rfl) rfl) hit (Below.refl _ _)
    (fun h k => h.trans k) (fun W l o o' _ h1 h2 => KeepC.put W l o o' h1 h2) (fun _ => rfl)
    (IA w.heap.size W3.heap.size w) (fun _ _ _ => False)
    ?hI (fun _ => OwnP.const _ _ (fun _ => False))
    ?init ?round ?done ?stop
  case init => exact ⟨⟨_, y1, World.ownsRow_nil _ _ _ _⟩, hb2, Nat.le_refl _⟩
  case hI =>
    rintro pre W W' row ⟨⟨v, h1, h2⟩, h4, h5⟩ hgr hrow
    refine ⟨⟨v, h1.kept hgr (fun er => by have := (hrow _ er.symm).1; omega), h2.kept hgr ?_⟩, OwnP.below (β := Unit) _ (by omega) (by omega) () W W' row h4 hgr hrow, Nat.le_trans h5 hgr.size⟩
    cases hob : v.ownBlock with
    | none => exact .inl rfl
    | some k =>
      refine .inr (fun er => ?_)
      obtain ⟨h6, cur, h7⟩ := own_cells h2 k hob
      obtain ⟨-, o, h9, h10⟩ := hrow k er.symm
      rw [h7] at h9
      obtain rfl := Option.some.inj h9
      cases h10
  case round =>
    rintro l' pre x post W hx hl_ hlt ⟨⟨v, hb, hrow⟩, hB, hz⟩
    clear y1 y5 y7
    have m1 : ¬ w.heap.size = W.heap.size := by omega
    have m2 : ¬ W.heap.size = w.heap.size := by omega
    gi_wp2
    have hbn : Below W.heap.size W ((W.alloc (.cells (ES z33) 33)).setRow W.heap.size (ES x)) := below_setRow ((Below.refl _ W).alloc (Nat.le_refl _) _) (Nat.le_refl _) _
    have hI2 : IA w.heap.size W3.heap.size w pre ((W.alloc (.cells (ES z33) 33)).setRow W.heap.size (ES x)) := by
      refine ⟨⟨v, (hbn.block _ hb.lt).trans hb, hrow.kept (row := none) ⟨hbn.os, hbn.tape, hbn.output, hbn.size, fun k hk _ => hbn.block k hk⟩ ?_⟩, bk hB hB.size hbn, Nat.le_trans hz hbn.size⟩
      cases hob : v.ownBlock with
      | none => exact .inl rfl
      | some k => exact .inr (by simp)
    refine ⟨KeepsFrom.low hbn, KeepC.low hbn, hI2, ?_⟩
    have r7 : Row ((W.alloc (.cells (ES z33) 33)).setRow W.heap.size (ES x)) W.heap.size (ES x) := Row.setRow isRow_new
    rintro W2 hg2 ⟨⟨v, hb, hrow⟩, hB, hz⟩
    obtain ⟨d7, d7'⟩ := Row.kept r7 hg2 (by intro er; cases er; omega)
    have hle : pre.length + 1 ≤ 64 := by
      have h := congrArg List.length hx
      simp at h
      omega
    have hd : decide ((100 : Int) < (pre.length : Int) + 1) = false := decide_eq_false (by omega)
    clear hx hl_ hlt hg2 hI2 hbn r7
    have hc := hb.cell
    have HBG := Lib.hid (own_cells hrow)
    gi_wp2_with (gi_at_builtin; refine wpListIn_append_own _ rfl _ _ 22 rfl W3.heap.size 33 i0 (.agg (ES z33)) 4 32 Try.underlying22 hi hz0 hz1 hz2 rfl (by decide) _ _ _ rfl (hrow.alloc _) ⟨W2.heap.size, 0, none⟩ 1 1 (EL' x) rfl rfl (cell_four_new _ _ _) (by simp [EL', Value.oneCell']) (by unfold maxLen; omega) (by omega) (by simp; omega) ?_; intro v' w1 hown' hgrow _; obtain ⟨g', cap', rfl⟩ := ownsRow_succ hown'; obtain ⟨hv1, hv2, hr2, hk2, hb2, hs2⟩ := box_append hb (by decide) hrow hown' hgrow; have hc1 := hv1.cell; have hf1 := hv1.frozen; have hc2 := hv2.cell)
    have hKc : KeepC (CA w.heap.size W3.heap.size) W2 (w1.setCell ⟨w.heap.size, 0, none⟩ (Value.slice (some { block := g', off := 0 }) (pre.length + 1) cap')) := by
      refine ⟨hk2.size, fun k o hc hk ho => ?_⟩
      have hkl := (Array.getElem?_eq_some_iff.1 hk).1
      refine (Below.heap_setCell _ _ _ k (fun er => hc (.inl er))).trans ((hgrow.block k (by simp; omega) (fun er => ?_)).trans ((Below.heap_alloc _ _ _ hkl).trans hk))
      obtain ⟨h6, cur, h7⟩ := HBG.out k er.symm
      rw [h7] at hk
      exact hc (.inr ⟨h6, cur, (Option.some.inj hk).symm⟩)
    refine ⟨hk2.from _, hKc, ⟨⟨_, hv2, ?_⟩, hB.trans (hb2 _ (by omega) (by omega) (by omega)), Nat.le_trans hz hKc.size⟩⟩
    rw [flE_snoc, List.length_append]
    exact hr2
  case done =>
    rintro D W hD2 ⟨⟨v, hb, hrow⟩, hB, hz⟩ hK
    have hc := hb.cell
    obtain ⟨A', c', hv, hc', hC⟩ := own_kd (ownsRow_putObj hrow _ hK rfl) (by omega)
    have HV := Lib.hid hv
    clear hv
    gi_wp2
    exact leave_mark hK (v := v) (by simp [results, Try.results15, go_sem]) ⟨A', c', by rw [HV.out], hc', hC, below_putD hB (by omega) _⟩
  case stop =>
    rintro D cd pre x post W _ _ h _
    exact h.elim
end Go.Proofs.Ytjkbocejdjnfiaa.Bs

namespace Go.Proofs.Ytjkbocejdjnfiaa.Bs
open Go.RowKit Go.Shelf Go.Proofs.Ytjkbocejdjnfiaa.IAll Go.Proofs.YtjkbocejdjnfiaaW.PrintWords Go.Proofs.YtjkbocejdjnfiaaW.PrintLast Go.Proofs.YtjkbocejdjnfiaaW.PrintMore
attribute [local go_sem] Oper.semAt_some cell_row frozen_row isRow_setCell_eq rowAt_setCell_same rowAt_setCell_other isRow_alloc_eq rowAt_alloc rowAt_new rowAt_new' isRow_setRow_eq rowAt_setRow_same rowAt_setRow_other isRow_drew rowAt_drew size_setRow_ size_drew_ blk_ptr aggOf_agg below_alloc_e below_setCell_e below_setRow_e below_refl_e below_drew_r isRow_drewN rowAt_drewN below_drewN_e le_add_r asideP_alloc_e asideP_setCell_e asideP_setRow_e asideP_drew_e asideP_drewN_e asideP_refl_e cell_setRow_far cell_setCell_far cell_drew_ heap_setCell_far heap_setRow_far heap_drew_ ES_size ES_one ES_fold ES_0 ES_1 allOne_nil allOne_cons Value.oneCell'
attribute [local go_sem ↓] loadS storeS loadSg storeSg
def inR (addr : Int) (p : Int × Int) : Bool := decide (p.1 ≤ addr) && decide (addr - p.1 < p.2)
def inS (addr : Int) (s : Sp) : Bool := decide (s.f0 ≤ addr) && decide (addr - s.f0 < s.f1)
def pq (L : List (Int × Int)) (j : Nat) : Int × Int := L.getD j (0, 0)
theorem pq_mem {L : List (Int × Int)} {j : Nat} (h : j < L.length) : pq L j ∈ L := by
  rw [pq, List.getD_eq_getElem?_getD, List.getElem?_eq_getElem h]
  exact List.getElem_mem h
theorem pq_next {L : List (Int × Int)} {j : Nat} (h : j < L.length) : L.take (j + 1) = L.take j ++ [pq L j] := by
  rw [pq, List.getD_eq_getElem?_getD, List.getElem?_eq_getElem h, List.take_add_one, List.getElem?_eq_getElem h]
  rfl
theorem flI_at : ∀ (L : List (Int × Int)) (j : Nat), j < L.length → (flI L)[2 * j]? = some (pq L j).1 ∧ (flI L)[2 * j + 1]? = some (pq L j).2
  | [], j, h => by simp at h
  | x :: r, 0, _ => ⟨rfl, rfl⟩
  | x :: r, j + 1, h => by
    have ih := flI_at r j (by simpa using h)
    have e1 : pq (x :: r) (j + 1) = pq r j := by simp [pq, List.getD_eq_getElem?_getD]
    have e2 : flI (x :: r) = x.1 :: x.2 :: flI r := rfl
    rw [e1, e2, show 2 * (j + 1) = 2 * j + 1 + 1 by omega, List.getElem?_cons_succ, List.getElem?_cons_succ, List.getElem?_cons_succ, List.getElem?_cons_succ]
    exact ih
theorem int_at {w : World} {A : Option Addr} {n : Nat} {xs : List Int} (h : Kd.C (Kd.int .i64) w A n xs) {i : Nat} {v : Int} (hi : xs[i]? = some v) : ∃ ad, A = some ad ∧ w.cell? (ad.add i) = some (.int .i64 v) := by
  obtain ⟨hl, hm, hq⟩ := h
  have hi' := (List.getElem?_eq_some_iff.1 hi).1
  obtain ⟨ad, e, h2⟩ := hq (by omega)
  obtain ⟨c, hc, hK, hcell⟩ := h2 i v hi
  refine ⟨ad, e, ?_⟩
  have h3 : c = [.int .i64 v] := hK
  subst h3
  have := hcell 0 (.int .i64 v) rfl
  rwa [show i * (Kd.int .i64).sz + 0 = i by show i * 1 + 0 = i; omega] at this
theorem NoOvl.pre {l : List Sp} {x : Sp} (h : NoOvl (l ++ [x])) : NoOvl l := by
  intro k hk
  have := h k (by simp; omega)
  rwa [rd_left (by omega), rd_left (i := k + 1) (by omega)] at this
/-- an address that a range or a span holds, up to what was gone through -/
theorem parts_pre {addr e : Int} (h0 : 0 ≤ addr) (h1 : addr < e) : ∀ (m : Nat) (l : List Sp), l.length = m → (∀ s ∈ l, Rgt s) → NoOvl l → (frp e l).1.countP (inR addr) + l.countP (inS addr) = if addr < (frp e l).2 then 1 else 0
  | 0, l, hl, _, _ => by
    obtain rfl : l = [] := List.length_eq_zero_iff.1 hl
    have : ¬ addr < 0 := by omega
    simp [frp, this]
  | m + 1, l, hl, hD, hN => by
    rcases List.eq_nil_or_concat l with h | ⟨l', x, h⟩
    · subst h; cases hl
    · rw [List.concat_eq_append] at h
      subst h
      have hl' : l'.length = m := by simpa using hl
      have ih := parts_pre h0 h1 m l' hl' (fun s hs => hD s (by simp [hs])) hN.pre
      have hle : (frp e l').2 ≤ x.f0 := by
        rcases List.eq_nil_or_concat l' with h | ⟨l'', y, h⟩
        · subst h
          exact (hD x (by simp)).1
        · rw [List.concat_eq_append] at h
          subst h
          rw [frp_snoc]
          have := hN l''.length (by simp)
          rw [show l'' ++ [y] ++ [x] = l'' ++ y :: [x] by simp, rd_app] at this
          have h2 := rd_right (pre := l'') (post := [x]) (s := y) (i := 0)
          rw [show l''.length + 1 + 0 = l''.length + 1 by omega] at h2
          rw [h2] at this
          exact this
      obtain ⟨r0, r1, r2⟩ := hD x (by simp)
      rw [frp_snoc, stp, List.countP_append, List.countP_append, List.countP_singleton]
      generalize (frp e l').2 = at_ at *
      generalize (frp e l').1.countP (inR addr) = c1 at *
      generalize l'.countP (inS addr) = c2 at *
      by_cases a1 : at_ < x.f0 ∧ at_ < e
      · rw [if_pos a1, List.countP_singleton]
        by_cases b1 : addr < at_
        · have q1 : inR addr (at_, min e x.f0 - at_) = false := by simp [inR]; omega
          have q2 : inS addr x = false := by simp [inS]; omega
          rw [if_pos b1] at ih
          rw [q1, q2, if_pos (show addr < x.f0 + x.f1 by omega)]
          simp; omega
        · rw [if_neg b1] at ih
          by_cases b2 : addr < x.f0
          · have q1 : inR addr (at_, min e x.f0 - at_) = true := by simp [inR]; omega
            have q2 : inS addr x = false := by simp [inS]; omega
            rw [q1, q2, if_pos (show addr < x.f0 + x.f1 by omega)]
            simp; omega
          · have q1 : inR addr (at_, min e x.f0 - at_) = false := by simp [inR]; omega
            by_cases b3 : addr < x.f0 + x.f1
            · have q2 : inS addr x = true := by simp [inS]; omega
              rw [q1, q2, if_pos b3]
              simp; omega
            · have q2 : inS addr x = false := by simp [inS]; omega
              rw [q1, q2, if_neg b3]
              simp; omega
      · rw [if_neg a1, List.countP_nil]
        by_cases b1 : addr < at_
        · have q2 : inS addr x = false := by simp [inS]; omega
          rw [if_pos b1] at ih
          rw [q2, if_pos (show addr < x.f0 + x.f1 by omega)]
          simp; omega
        · rw [if_neg b1] at ih
          by_cases b3 : addr < x.f0 + x.f1
          · have q2 : inS addr x = true := by simp [inS]; omega
            rw [q2, if_pos b3]
            simp; omega
          · have q2 : inS addr x = false := by simp [inS]; omega
            rw [q2, if_neg b3]
            simp; omega
theorem parts_all {addr e : Int} (h0 : 0 ≤ addr) (h1 : addr < e) {d : List Sp} (hD : ∀ s ∈ d, Rgt s) (hN : NoOvl d) : (fr e d).countP (inR addr) + d.countP (inS addr) = 1 := by
  have h := parts_pre h0 h1 _ d rfl hD hN
  rw [fr, List.countP_append]
  by_cases b : (frp e d).2 < e
  · rw [if_pos b, List.countP_singleton]
    by_cases c : addr < (frp e d).2
    · have q : inR addr ((frp e d).2, e - (frp e d).2) = false := by simp [inR]; omega
      rw [q]; rw [if_pos c] at h; simp; omega
    · have q : inR addr ((frp e d).2, e - (frp e d).2) = true := by simp [inR]; omega
      rw [q]; rw [if_neg c] at h; simp; omega
  · rw [if_neg b, List.countP_nil]
    rw [if_pos (by omega)] at h
    omega
theorem wfi {n : Int} (h : (Lit.int .i64 n).wf = true) : -9223372036854775808 ≤ n ∧ n ≤ 9223372036854775807 := by simpa [Lit.wf, IntKind.min, IntKind.max, IntKind.signed, IntKind.bits] using h
attribute [local go_sem] ES_z bne_self_eq_false
set_option maxRecDepth 100000 in
set_option maxHeartbeats 4000000 in
theorem parts_law (A : Option Addr) (n c : Nat) (d : List Sp) (e addr : Int) (w : World) (hr : Kd.C k33 w A n d) (he : e ≤ 9223372036854775807) :
    Calls Try.prog 7 #[.slice A n c, .int .i64 e, .int .i64 addr] w fun en w' => en = .returned (.bool true) ∧ Below w.heap.size w w' := by
  have hn : d.length = n := Kd.C_len hr
  have hmx := Kd.C_max hr
  go_enter Try.func7, Try.ntmps7
  go_wp2_with fail
  refine (awake_c w).mono ?_
  rintro en W1 ⟨rfl, hB1⟩
  have hC1 := Kd.C_below hr hB1
  clear hr
  go_wp2_with fail
  refine (New_c A n c d W1 hC1).mono ?_
  rintro en W2 ⟨v, r, rfl, hb2, ho⟩
  have hB2 : Below w.heap.size w W2 := bk hB1 hB1.size hb2
  clear hC1 hB1 hb2
  have hnil : v = .pointer none ∨ (¬ newBad d ∧ ∃ d' : List Sp, d'.Perm d ∧ Srt d' ∧ NoOvl d' ∧ ∃ g A' c', v = .pointer (some ⟨g, 0, none⟩) ∧ Row W2 g #[.slice A' n c'] ∧ Kd.C k33 W2 A' n d') := by
    rcases ho with ⟨-, h, -⟩ | ⟨hb, d', hp, hs, ⟨-, h, -⟩ | ⟨hno, -, g, A', c', h, -, hrow, -, hC, -⟩⟩
    · exact .inl h
    · exact .inl h
    · exact .inr ⟨hb, d', hp, hs, hno, g, A', c', h, hrow, hC⟩
  clear ho
  rcases hnil with rfl | ⟨hb, d', hp, hs, hno, g, A', c', rfl, hrow, hC⟩
  · go_wp2
    go_ret
    exact ⟨rfl, hB2⟩
  by_cases k0 : addr < 0
  · have e1 := decide_eq_true k0
    go_wp2
    go_ret
    exact ⟨rfl, hB2⟩
  by_cases k1 : e ≤ addr
  · have e1 := decide_eq_false k0
    have e2 := decide_eq_true k1
    go_wp2
    go_ret
    exact ⟨rfl, hB2⟩
  have e1 := decide_eq_false k0
  have e2 := decide_eq_false k1
  have hD : ∀ y ∈ d, Rgt y := fun y hy => by
    refine (right_rgt ?_).1
    cases h : rightB y with
    | true => rfl
    | false => exact absurd (.inr ⟨y, hy, h⟩) hb
  have hD' : ∀ y ∈ d', Rgt y := fun y hy => hD y (hp.mem_iff.1 hy)
  have h32 : n ≤ 32 := by
    rcases Nat.lt_or_ge 32 d.length with h | h
    · exact absurd (.inl h) hb
    · omega
  have HP := Lib.hid (parts_all (by omega) (by omega) hD' hno (addr := addr) (e := e))
  have HBd := Lib.hid (fr_bd (e := e) hD')
  have HD := Lib.hid hD'
  have hn' : d'.length = n := Kd.C_len hC
  have HF := Lib.hid (free_k A' n c' d' g e W2 hrow hC hD' (by omega) he)
  have lg := hrow.lt
  have l2 := hB2.size
  clear hb hs hno hD hD' hp
  go_wp2_with fail
  refine HF.out.mono ?_
  rintro en W3 ⟨A7, c7, rfl, hc7, hL, hb3⟩
  have hC3 := Kd.C_below hC hb3
  have hR3 := hrow.below hb3 lg
  have hB3 : Below w.heap.size w W3 := bk hB2 l2 hb3
  clear hC hrow hB2 hb3 HF l2 lg hc7
  have hLl : (fr e d').length ≤ 33 := by have := fr_len e d'; omega
  generalize fr e d' = L at *
  have HFL := Lib.hid (flI_len L)
  go_wp2
  go_loopw [10, 12] (fun p q wr => ∃ k j : Nat, k = 2 * j ∧ j ≤ L.length ∧ p = .int .i64 ((L.take j).countP (inR addr)) ∧ q = .int .i64 k ∧ Kd.C k33 wr A' n d' ∧ Kd.C (Kd.int .i64) wr A7 (flI L).length (flI L) ∧ Row wr g #[.slice A' n c'] ∧ Below w.heap.size w wr) (fun _ q _ => (flI L).length - (intOf q).toNat)
  case atStart => exact ⟨0, 0, rfl, by omega, rfl, rfl, hC3, hL, hR3, hB3⟩
  case round =>
    obtain ⟨k, j, hkj, hj, rfl, rfl, hCr, hLr, hRr, hBr⟩ := hrel
    clear hC3 hB3 hL hR3
    have hfl := HFL.out
    have w0 : IntKind.i64.wrap ((k : Int) + 1) = (k : Int) + 1 := IntWalk.i64_in _ (by omega)
    have lgr := hRr.lt
    by_cases hlt : j < L.length
    · have c1 : ((k : Int) + 1 < (flI L).length) := by omega
      have c2 : ((k : Int) < (flI L).length) := by omega
      have c3 : (0 : Int) ≤ k := by omega
      have c4 : (0 : Int) ≤ (k : Int) + 1 := by omega
      have ht1 : ((k : Int) + 1).toNat = k + 1 := by omega
      have w2 : IntKind.i64.wrap ((k : Int) + 2) = (k : Int) + 2 := IntWalk.i64_in _ (by omega)
      obtain ⟨f1, f2⟩ := flI_at L j hlt
      rw [← hkj] at f1 f2
      obtain ⟨ad, er, hx0⟩ := int_at hLr f1
      cases er
      obtain ⟨ad', er, hx1⟩ := int_at hLr f2
      cases er
      replace hx1 : wr.cell? { block := ad.block, off := ad.off + (k + 1) } = some (.int .i64 (pq L j).2) := hx1
      clear f1 f2
      obtain ⟨z0, z1, z2⟩ := HBd.out _ (pq_mem hlt)
      have hcl : (L.take j).countP (inR addr) ≤ j := Nat.le_trans List.countP_le_length (by simp; omega)
      have w5 : IntKind.i64.wrap (((L.take j).countP (inR addr) : Int) + 1) = ((L.take j).countP (inR addr) : Int) + 1 := IntWalk.i64_in _ (by omega)
      have HS := Lib.hid (pq_next hlt)
      have HK := Lib.hid hkj
      clear hkj hfl
      by_cases h1 : (pq L j).1 ≤ addr
      · have w6 : IntKind.i64.wrap (addr - (pq L j).1) = addr - (pq L j).1 := IntWalk.i64_in _ (by omega)
        by_cases h2 : addr - (pq L j).1 < (pq L j).2
        · skip
          have HO := Lib.hid (show inR addr (pq L j) = true by rw [inR]; simp; omega)
          have q1 := decide_eq_true h1
          have q2 := decide_eq_true h2
          clear h1 h2
          have HRr := Lib.hid hRr
          have hB_0 : Below wr.heap.size wr wr := Below.refl _ _
          go_wp2_with fail
          refine wp_named (fun W_ => W_.cell? (ad.add k) = some (.int .i64 (pq L j).1) ∧ W_.cell? { block := ad.block, off := ad.off + (k + 1) } = some (.int .i64 (pq L j).2) ∧ Below wr.heap.size wr W_) (by refine ⟨by first | assumption | (go_simp; done) | exact hx0, by first | assumption | (go_simp; done) | exact hx1, by go_simp⟩) ?_
          rintro v1 ⟨al0_1, al1_1, hB_1⟩
          clear hB_0 hx0 hx1
          have hz_1 : wr.heap.size ≤ v1.heap.size := hB_1.size
          refine wp_region_held_drew (S := fun w' => w'.cell? (ad.add k) = some (.int .i64 (pq L j).1) ∧ w'.cell? { block := ad.block, off := ad.off + (k + 1) } = some (.int .i64 (pq L j).2) ∧ Below wr.heap.size wr w') (by kernel_rfl) ⟨by first | exact al0_1 | (go_simp; done), by first | exact al1_1 | (go_simp; done), by go_simp⟩ (fun hHeld => ?_)
          refine wpAnyH_take (i := 0) (oi := ⟨some 49, .move (.tmp 2), 3, "law.go:180", #[], none⟩) (v := ?_) rfl (by kernel_rfl) (by kernel_rfl) (by kernel_rfl) (fun _ _ _ h => h) (Or.inl ⟨by rfl, ?_⟩) (by assumption) ?_
          rotate_left
          · (intro w_ hS_; (try dsimp only at hS_); go_simp; try with_reducible rfl)
          try simp only [Act.put, List.setIfInBounds_toArray, List.set_cons_zero, List.set_cons_succ]
          refine wpAnyH_take (i := 1) (oi := ⟨some 50, .move (.tmp 11), 43, "law.go:180", #[], none⟩) (v := ?_) rfl (by kernel_rfl) (by kernel_rfl) (by kernel_rfl) (fun _ _ _ h => h) (Or.inl ⟨by rfl, ?_⟩) (by assumption) ?_
          rotate_left
          · (intro w_ hS_; (try dsimp only at hS_); go_simp; try with_reducible rfl)
          try simp only [Act.put, List.setIfInBounds_toArray, List.set_cons_zero, List.set_cons_succ]
          refine wpAnyH_take (i := 2) (oi := ⟨some 51, .move (.tmp 12), 3, "law.go:180", #[], none⟩) (v := ?_) rfl (by kernel_rfl) (by kernel_rfl) (by kernel_rfl) (fun _ _ _ h => h) (Or.inl ⟨by rfl, ?_⟩) (by assumption) ?_
          rotate_left
          · (intro w_ hS_; (try dsimp only at hS_); go_simp; try with_reducible rfl)
          try simp only [Act.put, List.setIfInBounds_toArray, List.set_cons_zero, List.set_cons_succ]
          refine wpAnyH_take (i := 3) (oi := ⟨some 52, .indexAddr 43 (.tmp 50) (.tmp 51), 0, "law.go:180", #[⟨1, .data⟩, ⟨2, .data⟩], none⟩) (v := ?_) rfl (by kernel_rfl) (by kernel_rfl) (by kernel_rfl) (fun _ _ _ h => h) (Or.inl ⟨by rfl, ?_⟩) (by assumption) ?_
          rotate_left
          · (intro w_ hS_; (try dsimp only at hS_); go_simp; try with_reducible rfl)
          try simp only [Act.put, List.setIfInBounds_toArray, List.set_cons_zero, List.set_cons_succ]
          refine wpAnyH_take (i := 4) (oi := ⟨some 53, .load 3 (.tmp 52), 3, "law.go:180", #[⟨3, .data⟩], none⟩) (v := ?_) rfl (by kernel_rfl) (by kernel_rfl) (by kernel_rfl) (fun _ _ _ h => h) (Or.inl ⟨by rfl, ?_⟩) (by assumption) ?_
          rotate_left
          · (intro w_ hS_; (try dsimp only at hS_); go_simp; try with_reducible rfl)
          try simp only [Act.put, List.setIfInBounds_toArray, List.set_cons_zero, List.set_cons_succ]
          refine wpAnyH_take (i := 5) (oi := ⟨some 54, .binOp .geq 3 (.tmp 49) (.tmp 53) 3, 4, "law.go:180", #[⟨0, .data⟩, ⟨4, .data⟩], none⟩) (v := ?_) rfl (by kernel_rfl) (by kernel_rfl) (by kernel_rfl) (fun _ _ _ h => h) (Or.inl ⟨by rfl, ?_⟩) (by assumption) ?_
          rotate_left
          · (intro w_ hS_; (try dsimp only at hS_); go_simp; try with_reducible rfl)
          try simp only [Act.put, List.setIfInBounds_toArray, List.set_cons_zero, List.set_cons_succ]
          refine wpAnyH_take (i := 6) (oi := ⟨some 55, .move (.tmp 54), 4, "law.go:180", #[⟨5, .data⟩], none⟩) (v := ?_) rfl (by kernel_rfl) (by kernel_rfl) (by kernel_rfl) (fun _ _ _ h => h) (Or.inl ⟨by rfl, ?_⟩) (by assumption) ?_
          rotate_left
          · (intro w_ hS_; (try dsimp only at hS_); go_simp; try with_reducible rfl)
          try simp only [Act.put, List.setIfInBounds_toArray, List.set_cons_zero, List.set_cons_succ]
          refine wpAnyH_take (i := 7) (oi := ⟨some 56, .move (.tmp 2), 3, "law.go:180", #[⟨6, .guard⟩], some (6, true)⟩) (v := ?_) rfl (by kernel_rfl) (by kernel_rfl) (by kernel_rfl) (fun _ _ _ h => h) (Or.inl ⟨by rfl, ?_⟩) (by assumption) ?_
          rotate_left
          · (intro w_ hS_; (try dsimp only at hS_); go_simp; try with_reducible rfl)
          try simp only [Act.put, List.setIfInBounds_toArray, List.set_cons_zero, List.set_cons_succ]
          refine wpAnyH_take (i := 8) (oi := ⟨some 57, .move (.tmp 11), 43, "law.go:180", #[⟨6, .guard⟩], some (6, true)⟩) (v := ?_) rfl (by kernel_rfl) (by kernel_rfl) (by kernel_rfl) (fun _ _ _ h => h) (Or.inl ⟨by rfl, ?_⟩) (by assumption) ?_
          rotate_left
          · (intro w_ hS_; (try dsimp only at hS_); go_simp; try with_reducible rfl)
          try simp only [Act.put, List.setIfInBounds_toArray, List.set_cons_zero, List.set_cons_succ]
          refine wpAnyH_take (i := 9) (oi := ⟨some 58, .move (.tmp 12), 3, "law.go:180", #[⟨6, .guard⟩], some (6, true)⟩) (v := ?_) rfl (by kernel_rfl) (by kernel_rfl) (by kernel_rfl) (fun _ _ _ h => h) (Or.inl ⟨by rfl, ?_⟩) (by assumption) ?_
          rotate_left
          · (intro w_ hS_; (try dsimp only at hS_); go_simp; try with_reducible rfl)
          try simp only [Act.put, List.setIfInBounds_toArray, List.set_cons_zero, List.set_cons_succ]
          refine wpAnyH_take (i := 10) (oi := ⟨some 59, .indexAddr 43 (.tmp 57) (.tmp 58), 0, "law.go:180", #[⟨8, .data⟩, ⟨9, .data⟩, ⟨6, .guard⟩], some (6, true)⟩) (v := ?_) rfl (by kernel_rfl) (by kernel_rfl) (by kernel_rfl) (fun _ _ _ h => h) (Or.inl ⟨by rfl, ?_⟩) (by assumption) ?_
          rotate_left
          · (intro w_ hS_; (try dsimp only at hS_); go_simp; try with_reducible rfl)
          try simp only [Act.put, List.setIfInBounds_toArray, List.set_cons_zero, List.set_cons_succ]
          refine wpAnyH_take (i := 11) (oi := ⟨some 60, .load 3 (.tmp 59), 3, "law.go:180", #[⟨10, .data⟩, ⟨6, .guard⟩], some (6, true)⟩) (v := ?_) rfl (by kernel_rfl) (by kernel_rfl) (by kernel_rfl) (fun _ _ _ h => h) (Or.inl ⟨by rfl, ?_⟩) (by assumption) ?_
          rotate_left
          · (intro w_ hS_; (try dsimp only at hS_); go_simp; try with_reducible rfl)
          try simp only [Act.put, List.setIfInBounds_toArray, List.set_cons_zero, List.set_cons_succ]
          refine wpAnyH_take (i := 12) (oi := ⟨some 61, .binOp .sub 3 (.tmp 56) (.tmp 60) 3, 3, "law.go:180", #[⟨7, .data⟩, ⟨11, .data⟩, ⟨6, .guard⟩], some (6, true)⟩) (v := ?_) rfl (by kernel_rfl) (by kernel_rfl) (by kernel_rfl) (fun _ _ _ h => h) (Or.inl ⟨by rfl, ?_⟩) (by assumption) ?_
          rotate_left
          · (intro w_ hS_; (try dsimp only at hS_); go_simp; try with_reducible rfl)
          try simp only [Act.put, List.setIfInBounds_toArray, List.set_cons_zero, List.set_cons_succ]
          refine wpAnyH_take (i := 13) (oi := ⟨some 62, .move (.tmp 11), 43, "law.go:180", #[⟨6, .guard⟩], some (6, true)⟩) (v := ?_) rfl (by kernel_rfl) (by kernel_rfl) (by kernel_rfl) (fun _ _ _ h => h) (Or.inl ⟨by rfl, ?_⟩) (by assumption) ?_
          rotate_left
          · (intro w_ hS_; (try dsimp only at hS_); go_simp; try with_reducible rfl)
          try simp only [Act.put, List.setIfInBounds_toArray, List.set_cons_zero, List.set_cons_succ]
          refine wpAnyH_take (i := 14) (oi := ⟨some 63, .move (.tmp 12), 3, "law.go:180", #[⟨6, .guard⟩], some (6, true)⟩) (v := ?_) rfl (by kernel_rfl) (by kernel_rfl) (by kernel_rfl) (fun _ _ _ h => h) (Or.inl ⟨by rfl, ?_⟩) (by assumption) ?_
          rotate_left
          · (intro w_ hS_; (try dsimp only at hS_); go_simp; try with_reducible rfl)
          try simp only [Act.put, List.setIfInBounds_toArray, List.set_cons_zero, List.set_cons_succ]
          refine wpAnyH_take (i := 15) (oi := ⟨some 64, .binOp .add 3 (.tmp 63) (.const (.int .i64 1)) 3, 3, "law.go:180", #[⟨14, .data⟩, ⟨6, .guard⟩], some (6, true)⟩) (v := ?_) rfl (by kernel_rfl) (by kernel_rfl) (by kernel_rfl) (fun _ _ _ h => h) (Or.inl ⟨by rfl, ?_⟩) (by assumption) ?_
          rotate_left
          · (intro w_ hS_; (try dsimp only at hS_); go_simp; try with_reducible rfl)
          try simp only [Act.put, List.setIfInBounds_toArray, List.set_cons_zero, List.set_cons_succ]
          refine wpAnyH_take (i := 16) (oi := ⟨some 65, .indexAddr 43 (.tmp 62) (.tmp 64), 0, "law.go:180", #[⟨13, .data⟩, ⟨15, .data⟩, ⟨6, .guard⟩], some (6, true)⟩) (v := ?_) rfl (by kernel_rfl) (by kernel_rfl) (by kernel_rfl) (fun _ _ _ h => h) (Or.inl ⟨by rfl, ?_⟩) (by assumption) ?_
          rotate_left
          · (intro w_ hS_; (try dsimp only at hS_); go_simp; try with_reducible rfl)
          try simp only [Act.put, List.setIfInBounds_toArray, List.set_cons_zero, List.set_cons_succ]
          refine wpAnyH_take (i := 17) (oi := ⟨some 66, .load 3 (.tmp 65), 3, "law.go:180", #[⟨16, .data⟩, ⟨6, .guard⟩], some (6, true)⟩) (v := ?_) rfl (by kernel_rfl) (by kernel_rfl) (by kernel_rfl) (fun _ _ _ h => h) (Or.inl ⟨by rfl, ?_⟩) (by assumption) ?_
          rotate_left
          · (intro w_ hS_; (try dsimp only at hS_); go_simp; try with_reducible rfl)
          try simp only [Act.put, List.setIfInBounds_toArray, List.set_cons_zero, List.set_cons_succ]
          refine wpAnyH_take (i := 18) (oi := ⟨some 67, .binOp .lss 3 (.tmp 61) (.tmp 66) 3, 4, "law.go:180", #[⟨12, .data⟩, ⟨17, .data⟩, ⟨6, .guard⟩], some (6, true)⟩) (v := ?_) rfl (by kernel_rfl) (by kernel_rfl) (by kernel_rfl) (fun _ _ _ h => h) (Or.inl ⟨by rfl, ?_⟩) (by assumption) ?_
          rotate_left
          · (intro w_ hS_; (try dsimp only at hS_); go_simp; try with_reducible rfl)
          try simp only [Act.put, List.setIfInBounds_toArray, List.set_cons_zero, List.set_cons_succ]
          refine wpAnyH_take (i := 19) (oi := ⟨some 68, .pick (.tmp 55) (.tmp 67) (.const (.bool false)), 4, "law.go:180", #[⟨6, .data⟩, ⟨18, .data⟩], none⟩) (v := ?_) rfl (by kernel_rfl) (by kernel_rfl) (by kernel_rfl) (fun _ _ _ h => h) (Or.inl ⟨by rfl, ?_⟩) (by assumption) ?_
          rotate_left
          · (intro w_ hS_; (try dsimp only at hS_); go_simp; try with_reducible rfl)
          try simp only [Act.put, List.setIfInBounds_toArray, List.set_cons_zero, List.set_cons_succ]
          refine wpAnyH_done (by kernel_rfl) ?_ _
          (try dsimp only at hHeld)
          go_split_ands
          have hBv : Below wr.heap.size wr v1.drew := by assumption
          have hBv1 : Below w.heap.size w v1.drew := bk hBr hBr.size hBv
          have hC1v : Kd.C k33 v1.drew A' n d' := Kd.C_below hCr hBv
          have hC2v : Kd.C (Kd.int .i64) v1.drew (some ad) (flI L).length (flI L) := Kd.C_below hLr hBv
          have hRv := HRr.out.below hBv lgr
          go_wp2
          go_roundw
          case rel =>
            have hkj := HK.out
            refine ⟨k + 2, j + 1, by omega, by omega, ?_, congrArg (Value.int .i64) (by omega), hC1v, hC2v, hRv, hBv1⟩
            rw [HS.out, List.countP_append, List.countP_singleton, HO.out]
            exact congrArg (Value.int .i64) (by simp)
          case measure =>
            have hkj := HK.out
            have hfl := HFL.out
            simp [intOf]; omega

        · skip
          have HO := Lib.hid (show inR addr (pq L j) = false by rw [inR]; simp; omega)
          have q1 := decide_eq_true h1
          have q2 := decide_eq_false h2
          clear h1 h2
          have HRr := Lib.hid hRr
          have hB_0 : Below wr.heap.size wr wr := Below.refl _ _
          go_wp2_with fail
          refine wp_named (fun W_ => W_.cell? (ad.add k) = some (.int .i64 (pq L j).1) ∧ W_.cell? { block := ad.block, off := ad.off + (k + 1) } = some (.int .i64 (pq L j).2) ∧ Below wr.heap.size wr W_) (by refine ⟨by first | assumption | (go_simp; done) | exact hx0, by first | assumption | (go_simp; done) | exact hx1, by go_simp⟩) ?_
          rintro v1 ⟨al0_1, al1_1, hB_1⟩
          clear hB_0 hx0 hx1
          have hz_1 : wr.heap.size ≤ v1.heap.size := hB_1.size
          refine wp_region_held_drew (S := fun w' => w'.cell? (ad.add k) = some (.int .i64 (pq L j).1) ∧ w'.cell? { block := ad.block, off := ad.off + (k + 1) } = some (.int .i64 (pq L j).2) ∧ Below wr.heap.size wr w') (by kernel_rfl) ⟨by first | exact al0_1 | (go_simp; done), by first | exact al1_1 | (go_simp; done), by go_simp⟩ (fun hHeld => ?_)
          refine wpAnyH_take (i := 0) (oi := ⟨some 49, .move (.tmp 2), 3, "law.go:180", #[], none⟩) (v := ?_) rfl (by kernel_rfl) (by kernel_rfl) (by kernel_rfl) (fun _ _ _ h => h) (Or.inl ⟨by rfl, ?_⟩) (by assumption) ?_
          rotate_left
          · (intro w_ hS_; (try dsimp only at hS_); go_simp; try with_reducible rfl)
          try simp only [Act.put, List.setIfInBounds_toArray, List.set_cons_zero, List.set_cons_succ]
          refine wpAnyH_take (i := 1) (oi := ⟨some 50, .move (.tmp 11), 43, "law.go:180", #[], none⟩) (v := ?_) rfl (by kernel_rfl) (by kernel_rfl) (by kernel_rfl) (fun _ _ _ h => h) (Or.inl ⟨by rfl, ?_⟩) (by assumption) ?_
          rotate_left
          · (intro w_ hS_; (try dsimp only at hS_); go_simp; try with_reducible rfl)
          try simp only [Act.put, List.setIfInBounds_toArray, List.set_cons_zero, List.set_cons_succ]
          refine wpAnyH_take (i := 2) (oi := ⟨some 51, .move (.tmp 12), 3, "law.go:180", #[], none⟩) (v := ?_) rfl (by kernel_rfl) (by kernel_rfl) (by kernel_rfl) (fun _ _ _ h => h) (Or.inl ⟨by rfl, ?_⟩) (by assumption) ?_
          rotate_left
          · (intro w_ hS_; (try dsimp only at hS_); go_simp; try with_reducible rfl)
          try simp only [Act.put, List.setIfInBounds_toArray, List.set_cons_zero, List.set_cons_succ]
          refine wpAnyH_take (i := 3) (oi := ⟨some 52, .indexAddr 43 (.tmp 50) (.tmp 51), 0, "law.go:180", #[⟨1, .data⟩, ⟨2, .data⟩], none⟩) (v := ?_) rfl (by kernel_rfl) (by kernel_rfl) (by kernel_rfl) (fun _ _ _ h => h) (Or.inl ⟨by rfl, ?_⟩) (by assumption) ?_
          rotate_left
          · (intro w_ hS_; (try dsimp only at hS_); go_simp; try with_reducible rfl)
          try simp only [Act.put, List.setIfInBounds_toArray, List.set_cons_zero, List.set_cons_succ]
          refine wpAnyH_take (i := 4) (oi := ⟨some 53, .load 3 (.tmp 52), 3, "law.go:180", #[⟨3, .data⟩], none⟩) (v := ?_) rfl (by kernel_rfl) (by kernel_rfl) (by kernel_rfl) (fun _ _ _ h => h) (Or.inl ⟨by rfl, ?_⟩) (by assumption) ?_
          rotate_left
          · (intro w_ hS_; (try dsimp only at hS_); go_simp; try with_reducible rfl)
          try simp only [Act.put, List.setIfInBounds_toArray, List.set_cons_zero, List.set_cons_succ]
          refine wpAnyH_take (i := 5) (oi := ⟨some 54, .binOp .geq 3 (.tmp 49) (.tmp 53) 3, 4, "law.go:180", #[⟨0, .data⟩, ⟨4, .data⟩], none⟩) (v := ?_) rfl (by kernel_rfl) (by kernel_rfl) (by kernel_rfl) (fun _ _ _ h => h) (Or.inl ⟨by rfl, ?_⟩) (by assumption) ?_
          rotate_left
          · (intro w_ hS_; (try dsimp only at hS_); go_simp; try with_reducible rfl)
          try simp only [Act.put, List.setIfInBounds_toArray, List.set_cons_zero, List.set_cons_succ]
          refine wpAnyH_take (i := 6) (oi := ⟨some 55, .move (.tmp 54), 4, "law.go:180", #[⟨5, .data⟩], none⟩) (v := ?_) rfl (by kernel_rfl) (by kernel_rfl) (by kernel_rfl) (fun _ _ _ h => h) (Or.inl ⟨by rfl, ?_⟩) (by assumption) ?_
          rotate_left
          · (intro w_ hS_; (try dsimp only at hS_); go_simp; try with_reducible rfl)
          try simp only [Act.put, List.setIfInBounds_toArray, List.set_cons_zero, List.set_cons_succ]
          refine wpAnyH_take (i := 7) (oi := ⟨some 56, .move (.tmp 2), 3, "law.go:180", #[⟨6, .guard⟩], some (6, true)⟩) (v := ?_) rfl (by kernel_rfl) (by kernel_rfl) (by kernel_rfl) (fun _ _ _ h => h) (Or.inl ⟨by rfl, ?_⟩) (by assumption) ?_
          rotate_left
          · (intro w_ hS_; (try dsimp only at hS_); go_simp; try with_reducible rfl)
          try simp only [Act.put, List.setIfInBounds_toArray, List.set_cons_zero, List.set_cons_succ]
          refine wpAnyH_take (i := 8) (oi := ⟨some 57, .move (.tmp 11), 43, "law.go:180", #[⟨6, .guard⟩], some (6, true)⟩) (v := ?_) rfl (by kernel_rfl) (by kernel_rfl) (by kernel_rfl) (fun _ _ _ h => h) (Or.inl ⟨by rfl, ?_⟩) (by assumption) ?_
          rotate_left
          · (intro w_ hS_; (try dsimp only at hS_); go_simp; try with_reducible rfl)
          try simp only [Act.put, List.setIfInBounds_toArray, List.set_cons_zero, List.set_cons_succ]
          refine wpAnyH_take (i := 9) (oi := ⟨some 58, .move (.tmp 12), 3, "law.go:180", #[⟨6, .guard⟩], some (6, true)⟩) (v := ?_) rfl (by kernel_rfl) (by kernel_rfl) (by kernel_rfl) (fun _ _ _ h => h) (Or.inl ⟨by rfl, ?_⟩) (by assumption) ?_
          rotate_left
          · (intro w_ hS_; (try dsimp only at hS_); go_simp; try with_reducible rfl)
          try simp only [Act.put, List.setIfInBounds_toArray, List.set_cons_zero, List.set_cons_succ]
          refine wpAnyH_take (i := 10) (oi := ⟨some 59, .indexAddr 43 (.tmp 57) (.tmp 58), 0, "law.go:180", #[⟨8, .data⟩, ⟨9, .data⟩, ⟨6, .guard⟩], some (6, true)⟩) (v := ?_) rfl (by kernel_rfl) (by kernel_rfl) (by kernel_rfl) (fun _ _ _ h => h) (Or.inl ⟨by rfl, ?_⟩) (by assumption) ?_
          rotate_left
          · (intro w_ hS_; (try dsimp only at hS_); go_simp; try with_reducible rfl)
          try simp only [Act.put, List.setIfInBounds_toArray, List.set_cons_zero, List.set_cons_succ]
          refine wpAnyH_take (i := 11) (oi := ⟨some 60, .load 3 (.tmp 59), 3, "law.go:180", #[⟨10, .data⟩, ⟨6, .guard⟩], some (6, true)⟩) (v := ?_) rfl (by kernel_rfl) (by kernel_rfl) (by kernel_rfl) (fun _ _ _ h => h) (Or.inl ⟨by rfl, ?_⟩) (by assumption) ?_
          rotate_left
          · (intro w_ hS_; (try dsimp only at hS_); go_simp; try with_reducible rfl)
          try simp only [Act.put, List.setIfInBounds_toArray, List.set_cons_zero, List.set_cons_succ]
          refine wpAnyH_take (i := 12) (oi := ⟨some 61, .binOp .sub 3 (.tmp 56) (.tmp 60) 3, 3, "law.go:180", #[⟨7, .data⟩, ⟨11, .data⟩, ⟨6, .guard⟩], some (6, true)⟩) (v := ?_) rfl (by kernel_rfl) (by kernel_rfl) (by kernel_rfl) (fun _ _ _ h => h) (Or.inl ⟨by rfl, ?_⟩) (by assumption) ?_
          rotate_left
          · (intro w_ hS_; (try dsimp only at hS_); go_simp; try with_reducible rfl)
          try simp only [Act.put, List.setIfInBounds_toArray, List.set_cons_zero, List.set_cons_succ]
          refine wpAnyH_take (i := 13) (oi := ⟨some 62, .move (.tmp 11), 43, "law.go:180", #[⟨6, .guard⟩], some (6, true)⟩) (v := ?_) rfl (by kernel_rfl) (by kernel_rfl) (by kernel_rfl) (fun _ _ _ h => h) (Or.inl ⟨by rfl, ?_⟩) (by assumption) ?_
          rotate_left
          · (intro w_ hS_; (try dsimp only at hS_); go_simp; try with_reducible rfl)
          try simp only [Act.put, List.setIfInBounds_toArray, List.set_cons_zero, List.set_cons_succ]
          refine wpAnyH_take (i := 14) (oi := ⟨some 63, .move (.tmp 12), 3, "law.go:180", #[⟨6, .guard⟩], some (6, true)⟩) (v := ?_) rfl (by kernel_rfl) (by kernel_rfl) (by kernel_rfl) (fun _ _ _ h => h) (Or.inl ⟨by rfl, ?_⟩) (by assumption) ?_
          rotate_left
          · (intro w_ hS_; (try dsimp only at hS_); go_simp; try with_reducible rfl)
          try simp only [Act.put, List.setIfInBounds_toArray, List.set_cons_zero, List.set_cons_succ]
          refine wpAnyH_take (i := 15) (oi := ⟨some 64, .binOp .add 3 (.tmp 63) (.const (.int .i64 1)) 3, 3, "law.go:180", #[⟨14, .data⟩, ⟨6, .guard⟩], some (6, true)⟩) (v := ?_) rfl (by kernel_rfl) (by kernel_rfl) (by kernel_rfl) (fun _ _ _ h => h) (Or.inl ⟨by rfl, ?_⟩) (by assumption) ?_
          rotate_left
          · (intro w_ hS_; (try dsimp only at hS_); go_simp; try with_reducible rfl)
          try simp only [Act.put, List.setIfInBounds_toArray, List.set_cons_zero, List.set_cons_succ]
          refine wpAnyH_take (i := 16) (oi := ⟨some 65, .indexAddr 43 (.tmp 62) (.tmp 64), 0, "law.go:180", #[⟨13, .data⟩, ⟨15, .data⟩, ⟨6, .guard⟩], some (6, true)⟩) (v := ?_) rfl (by kernel_rfl) (by kernel_rfl) (by kernel_rfl) (fun _ _ _ h => h) (Or.inl ⟨by rfl, ?_⟩) (by assumption) ?_
          rotate_left
          · (intro w_ hS_; (try dsimp only at hS_); go_simp; try with_reducible rfl)
          try simp only [Act.put, List.setIfInBounds_toArray, List.set_cons_zero, List.set_cons_succ]
          refine wpAnyH_take (i := 17) (oi := ⟨some 66, .load 3 (.tmp 65), 3, "law.go:180", #[⟨16, .data⟩, ⟨6, .guard⟩], some (6, true)⟩) (v := ?_) rfl (by kernel_rfl) (by kernel_rfl) (by kernel_rfl) (fun _ _ _ h => h) (Or.inl ⟨by rfl, ?_⟩) (by assumption) ?_
          rotate_left
          · (intro w_ hS_; (try dsimp only at hS_); go_simp; try with_reducible rfl)
          try simp only [Act.put, List.setIfInBounds_toArray, List.set_cons_zero, List.set_cons_succ]
          refine wpAnyH_take (i := 18) (oi := ⟨some 67, .binOp .lss 3 (.tmp 61) (.tmp 66) 3, 4, "law.go:180", #[⟨12, .data⟩, ⟨17, .data⟩, ⟨6, .guard⟩], some (6, true)⟩) (v := ?_) rfl (by kernel_rfl) (by kernel_rfl) (by kernel_rfl) (fun _ _ _ h => h) (Or.inl ⟨by rfl, ?_⟩) (by assumption) ?_
          rotate_left
          · (intro w_ hS_; (try dsimp only at hS_); go_simp; try with_reducible rfl)
          try simp only [Act.put, List.setIfInBounds_toArray, List.set_cons_zero, List.set_cons_succ]
          refine wpAnyH_take (i := 19) (oi := ⟨some 68, .pick (.tmp 55) (.tmp 67) (.const (.bool false)), 4, "law.go:180", #[⟨6, .data⟩, ⟨18, .data⟩], none⟩) (v := ?_) rfl (by kernel_rfl) (by kernel_rfl) (by kernel_rfl) (fun _ _ _ h => h) (Or.inl ⟨by rfl, ?_⟩) (by assumption) ?_
          rotate_left
          · (intro w_ hS_; (try dsimp only at hS_); go_simp; try with_reducible rfl)
          try simp only [Act.put, List.setIfInBounds_toArray, List.set_cons_zero, List.set_cons_succ]
          refine wpAnyH_done (by kernel_rfl) ?_ _
          (try dsimp only at hHeld)
          go_split_ands
          have hBv : Below wr.heap.size wr v1.drew := by assumption
          have hBv1 : Below w.heap.size w v1.drew := bk hBr hBr.size hBv
          have hC1v : Kd.C k33 v1.drew A' n d' := Kd.C_below hCr hBv
          have hC2v : Kd.C (Kd.int .i64) v1.drew (some ad) (flI L).length (flI L) := Kd.C_below hLr hBv
          have hRv := HRr.out.below hBv lgr
          go_wp2
          go_roundw
          case rel =>
            have hkj := HK.out
            refine ⟨k + 2, j + 1, by omega, by omega, ?_, congrArg (Value.int .i64) (by omega), hC1v, hC2v, hRv, hBv1⟩
            rw [HS.out, List.countP_append, List.countP_singleton, HO.out]
            exact congrArg (Value.int .i64) (by simp)
          case measure =>
            have hkj := HK.out
            have hfl := HFL.out
            simp [intOf]; omega

      · skip
        have HO := Lib.hid (show inR addr (pq L j) = false by rw [inR]; simp; omega)
        have q1 := decide_eq_false h1
        clear h1
        have HRr := Lib.hid hRr
        have hB_0 : Below wr.heap.size wr wr := Below.refl _ _
        go_wp2_with fail
        refine wp_named (fun W_ => W_.cell? (ad.add k) = some (.int .i64 (pq L j).1) ∧ W_.cell? { block := ad.block, off := ad.off + (k + 1) } = some (.int .i64 (pq L j).2) ∧ Below wr.heap.size wr W_) (by refine ⟨by first | assumption | (go_simp; done) | exact hx0, by first | assumption | (go_simp; done) | exact hx1, by go_simp⟩) ?_
        rintro v1 ⟨al0_1, al1_1, hB_1⟩
        clear hB_0 hx0 hx1
        have hz_1 : wr.heap.size ≤ v1.heap.size := hB_1.size
        refine wp_region_held_drew (S := fun w' => w'.cell? (ad.add k) = some (.int .i64 (pq L j).1) ∧ w'.cell? { block := ad.block, off := ad.off + (k + 1) } = some (.int .i64 (pq L j).2) ∧ Below wr.heap.size wr w') (by kernel_rfl) ⟨by first | exact al0_1 | (go_simp; done), by first | exact al1_1 | (go_simp; done), by go_simp⟩ (fun hHeld => ?_)
        refine wpAnyH_take (i := 0) (oi := ⟨some 49, .move (.tmp 2), 3, "law.go:180", #[], none⟩) (v := ?_) rfl (by kernel_rfl) (by kernel_rfl) (by kernel_rfl) (fun _ _ _ h => h) (Or.inl ⟨by rfl, ?_⟩) (by assumption) ?_
        rotate_left
        · (intro w_ hS_; (try dsimp only at hS_); go_simp; try with_reducible rfl)
        try simp only [Act.put, List.setIfInBounds_toArray, List.set_cons_zero, List.set_cons_succ]
        refine wpAnyH_take (i := 1) (oi := ⟨some 50, .move (.tmp 11), 43, "law.go:180", #[], none⟩) (v := ?_) rfl (by kernel_rfl) (by kernel_rfl) (by kernel_rfl) (fun _ _ _ h => h) (Or.inl ⟨by rfl, ?_⟩) (by assumption) ?_
        rotate_left
        · (intro w_ hS_; (try dsimp only at hS_); go_simp; try with_reducible rfl)
        try simp only [Act.put, List.setIfInBounds_toArray, List.set_cons_zero, List.set_cons_succ]
        refine wpAnyH_take (i := 2) (oi := ⟨some 51, .move (.tmp 12), 3, "law.go:180", #[], none⟩) (v := ?_) rfl (by kernel_rfl) (by kernel_rfl) (by kernel_rfl) (fun _ _ _ h => h) (Or.inl ⟨by rfl, ?_⟩) (by assumption) ?_
        rotate_left
        · (intro w_ hS_; (try dsimp only at hS_); go_simp; try with_reducible rfl)
        try simp only [Act.put, List.setIfInBounds_toArray, List.set_cons_zero, List.set_cons_succ]
        refine wpAnyH_take (i := 3) (oi := ⟨some 52, .indexAddr 43 (.tmp 50) (.tmp 51), 0, "law.go:180", #[⟨1, .data⟩, ⟨2, .data⟩], none⟩) (v := ?_) rfl (by kernel_rfl) (by kernel_rfl) (by kernel_rfl) (fun _ _ _ h => h) (Or.inl ⟨by rfl, ?_⟩) (by assumption) ?_
        rotate_left
        · (intro w_ hS_; (try dsimp only at hS_); go_simp; try with_reducible rfl)
        try simp only [Act.put, List.setIfInBounds_toArray, List.set_cons_zero, List.set_cons_succ]
        refine wpAnyH_take (i := 4) (oi := ⟨some 53, .load 3 (.tmp 52), 3, "law.go:180", #[⟨3, .data⟩], none⟩) (v := ?_) rfl (by kernel_rfl) (by kernel_rfl) (by kernel_rfl) (fun _ _ _ h => h) (Or.inl ⟨by rfl, ?_⟩) (by assumption) ?_
        rotate_left
        · (intro w_ hS_; (try dsimp only at hS_); go_simp; try with_reducible rfl)
        try simp only [Act.put, List.setIfInBounds_toArray, List.set_cons_zero, List.set_cons_succ]
        refine wpAnyH_take (i := 5) (oi := ⟨some 54, .binOp .geq 3 (.tmp 49) (.tmp 53) 3, 4, "law.go:180", #[⟨0, .data⟩, ⟨4, .data⟩], none⟩) (v := ?_) rfl (by kernel_rfl) (by kernel_rfl) (by kernel_rfl) (fun _ _ _ h => h) (Or.inl ⟨by rfl, ?_⟩) (by assumption) ?_
        rotate_left
        · (intro w_ hS_; (try dsimp only at hS_); go_simp; try with_reducible rfl)
        try simp only [Act.put, List.setIfInBounds_toArray, List.set_cons_zero, List.set_cons_succ]
        refine wpAnyH_take (i := 6) (oi := ⟨some 55, .move (.tmp 54), 4, "law.go:180", #[⟨5, .data⟩], none⟩) (v := ?_) rfl (by kernel_rfl) (by kernel_rfl) (by kernel_rfl) (fun _ _ _ h => h) (Or.inl ⟨by rfl, ?_⟩) (by assumption) ?_
        rotate_left
        · (intro w_ hS_; (try dsimp only at hS_); go_simp; try with_reducible rfl)
        try simp only [Act.put, List.setIfInBounds_toArray, List.set_cons_zero, List.set_cons_succ]
        refine wpAnyH_take (i := 7) (oi := ⟨some 56, .move (.tmp 2), 3, "law.go:180", #[⟨6, .guard⟩], some (6, true)⟩) (v := undef) rfl (by kernel_rfl) (by kernel_rfl) (by kernel_rfl) (fun _ _ _ h => h) (Or.inr ⟨by rfl, rfl⟩) (by assumption) ?_
        try simp only [Act.put, List.setIfInBounds_toArray, List.set_cons_zero, List.set_cons_succ]
        refine wpAnyH_take (i := 8) (oi := ⟨some 57, .move (.tmp 11), 43, "law.go:180", #[⟨6, .guard⟩], some (6, true)⟩) (v := undef) rfl (by kernel_rfl) (by kernel_rfl) (by kernel_rfl) (fun _ _ _ h => h) (Or.inr ⟨by rfl, rfl⟩) (by assumption) ?_
        try simp only [Act.put, List.setIfInBounds_toArray, List.set_cons_zero, List.set_cons_succ]
        refine wpAnyH_take (i := 9) (oi := ⟨some 58, .move (.tmp 12), 3, "law.go:180", #[⟨6, .guard⟩], some (6, true)⟩) (v := undef) rfl (by kernel_rfl) (by kernel_rfl) (by kernel_rfl) (fun _ _ _ h => h) (Or.inr ⟨by rfl, rfl⟩) (by assumption) ?_
        try simp only [Act.put, List.setIfInBounds_toArray, List.set_cons_zero, List.set_cons_succ]
        refine wpAnyH_take (i := 10) (oi := ⟨some 59, .indexAddr 43 (.tmp 57) (.tmp 58), 0, "law.go:180", #[⟨8, .data⟩, ⟨9, .data⟩, ⟨6, .guard⟩], some (6, true)⟩) (v := undef) rfl (by kernel_rfl) (by kernel_rfl) (by kernel_rfl) (fun _ _ _ h => h) (Or.inr ⟨by rfl, rfl⟩) (by assumption) ?_
        try simp only [Act.put, List.setIfInBounds_toArray, List.set_cons_zero, List.set_cons_succ]
        refine wpAnyH_take (i := 11) (oi := ⟨some 60, .load 3 (.tmp 59), 3, "law.go:180", #[⟨10, .data⟩, ⟨6, .guard⟩], some (6, true)⟩) (v := undef) rfl (by kernel_rfl) (by kernel_rfl) (by kernel_rfl) (fun _ _ _ h => h) (Or.inr ⟨by rfl, rfl⟩) (by assumption) ?_
        try simp only [Act.put, List.setIfInBounds_toArray, List.set_cons_zero, List.set_cons_succ]
        refine wpAnyH_take (i := 12) (oi := ⟨some 61, .binOp .sub 3 (.tmp 56) (.tmp 60) 3, 3, "law.go:180", #[⟨7, .data⟩, ⟨11, .data⟩, ⟨6, .guard⟩], some (6, true)⟩) (v := undef) rfl (by kernel_rfl) (by kernel_rfl) (by kernel_rfl) (fun _ _ _ h => h) (Or.inr ⟨by rfl, rfl⟩) (by assumption) ?_
        try simp only [Act.put, List.setIfInBounds_toArray, List.set_cons_zero, List.set_cons_succ]
        refine wpAnyH_take (i := 13) (oi := ⟨some 62, .move (.tmp 11), 43, "law.go:180", #[⟨6, .guard⟩], some (6, true)⟩) (v := undef) rfl (by kernel_rfl) (by kernel_rfl) (by kernel_rfl) (fun _ _ _ h => h) (Or.inr ⟨by rfl, rfl⟩) (by assumption) ?_
        try simp only [Act.put, List.setIfInBounds_toArray, List.set_cons_zero, List.set_cons_succ]
        refine wpAnyH_take (i := 14) (oi := ⟨some 63, .move (.tmp 12), 3, "law.go:180", #[⟨6, .guard⟩], some (6, true)⟩) (v := undef) rfl (by kernel_rfl) (by kernel_rfl) (by kernel_rfl) (fun _ _ _ h => h) (Or.inr ⟨by rfl, rfl⟩) (by assumption) ?_
        try simp only [Act.put, List.setIfInBounds_toArray, List.set_cons_zero, List.set_cons_succ]
        refine wpAnyH_take (i := 15) (oi := ⟨some 64, .binOp .add 3 (.tmp 63) (.const (.int .i64 1)) 3, 3, "law.go:180", #[⟨14, .data⟩, ⟨6, .guard⟩], some (6, true)⟩) (v := undef) rfl (by kernel_rfl) (by kernel_rfl) (by kernel_rfl) (fun _ _ _ h => h) (Or.inr ⟨by rfl, rfl⟩) (by assumption) ?_
        try simp only [Act.put, List.setIfInBounds_toArray, List.set_cons_zero, List.set_cons_succ]
        refine wpAnyH_take (i := 16) (oi := ⟨some 65, .indexAddr 43 (.tmp 62) (.tmp 64), 0, "law.go:180", #[⟨13, .data⟩, ⟨15, .data⟩, ⟨6, .guard⟩], some (6, true)⟩) (v := undef) rfl (by kernel_rfl) (by kernel_rfl) (by kernel_rfl) (fun _ _ _ h => h) (Or.inr ⟨by rfl, rfl⟩) (by assumption) ?_
        try simp only [Act.put, List.setIfInBounds_toArray, List.set_cons_zero, List.set_cons_succ]
        refine wpAnyH_take (i := 17) (oi := ⟨some 66, .load 3 (.tmp 65), 3, "law.go:180", #[⟨16, .data⟩, ⟨6, .guard⟩], some (6, true)⟩) (v := undef) rfl (by kernel_rfl) (by kernel_rfl) (by kernel_rfl) (fun _ _ _ h => h) (Or.inr ⟨by rfl, rfl⟩) (by assumption) ?_
        try simp only [Act.put, List.setIfInBounds_toArray, List.set_cons_zero, List.set_cons_succ]
        refine wpAnyH_take (i := 18) (oi := ⟨some 67, .binOp .lss 3 (.tmp 61) (.tmp 66) 3, 4, "law.go:180", #[⟨12, .data⟩, ⟨17, .data⟩, ⟨6, .guard⟩], some (6, true)⟩) (v := undef) rfl (by kernel_rfl) (by kernel_rfl) (by kernel_rfl) (fun _ _ _ h => h) (Or.inr ⟨by rfl, rfl⟩) (by assumption) ?_
        try simp only [Act.put, List.setIfInBounds_toArray, List.set_cons_zero, List.set_cons_succ]
        refine wpAnyH_take (i := 19) (oi := ⟨some 68, .pick (.tmp 55) (.tmp 67) (.const (.bool false)), 4, "law.go:180", #[⟨6, .data⟩, ⟨18, .data⟩], none⟩) (v := ?_) rfl (by kernel_rfl) (by kernel_rfl) (by kernel_rfl) (fun _ _ _ h => h) (Or.inl ⟨by rfl, ?_⟩) (by assumption) ?_
        rotate_left
        · (intro w_ hS_; (try dsimp only at hS_); go_simp; try with_reducible rfl)
        try simp only [Act.put, List.setIfInBounds_toArray, List.set_cons_zero, List.set_cons_succ]
        refine wpAnyH_done (by kernel_rfl) ?_ _
        (try dsimp only at hHeld)
        go_split_ands
        have hBv : Below wr.heap.size wr v1.drew := by assumption
        have hBv1 : Below w.heap.size w v1.drew := bk hBr hBr.size hBv
        have hC1v : Kd.C k33 v1.drew A' n d' := Kd.C_below hCr hBv
        have hC2v : Kd.C (Kd.int .i64) v1.drew (some ad) (flI L).length (flI L) := Kd.C_below hLr hBv
        have hRv := HRr.out.below hBv lgr
        go_wp2
        go_roundw
        case rel =>
          have hkj := HK.out
          refine ⟨k + 2, j + 1, by omega, by omega, ?_, congrArg (Value.int .i64) (by omega), hC1v, hC2v, hRv, hBv1⟩
          rw [HS.out, List.countP_append, List.countP_singleton, HO.out]
          exact congrArg (Value.int .i64) (by simp)
        case measure =>
          have hkj := HK.out
          have hfl := HFL.out
          simp [intOf]; omega

    · obtain rfl : j = L.length := by omega
      rw [List.take_of_length_le (Nat.le_refl _)]
      have c1 : ¬ ((k : Int) + 1 < (flI L).length) := by omega
      have c1' := decide_eq_false c1
      have hcl : L.countP (inR addr) ≤ L.length := List.countP_le_length
      generalize hcR : L.countP (inR addr) = cR at *
      clear c1 hkj hfl
      go_wp2_with fail
      refine (all_c A' n c' d' g wr hRr hCr (by omega)).mono ?_
      rintro en W4 ⟨A8, c8, rfl, hc8, hC4, hb4⟩
      have hB4 : Below w.heap.size w W4 := bk hBr hBr.size hb4
      clear hCr hLr hRr hBr hb4 lgr
      rw [hn'] at hC4 hc8 ⊢
      go_wp2
      go_loopw [10, 74] (fun p q wr => ∃ i : Nat, i ≤ n ∧ p = .int .i64 ((cR + (d'.take i).countP (inS addr) : Nat) : Int) ∧ q = .int .i64 i ∧ Kd.C k33 wr A8 n d' ∧ Below w.heap.size w wr) (fun _ q _ => n - (intOf q).toNat)
      case atStart => exact ⟨0, by omega, by simp, rfl, hC4, hB4⟩
      case round =>
        obtain ⟨i, hi, rfl, rfl, hCr, hBr⟩ := hrel
        clear hC4 hB4
        by_cases hlt : i < n
        · have k1 : (i : Int) < n := by omega
          have k0 : (0 : Int) ≤ i := by omega
          obtain ⟨ad, er, hx0, hx1, hx2, hx3⟩ := at_T33 hCr (i : Int) k0 k1
          cases er
          rw [Int.toNat_natCast] at hx0 hx1 hx2 hx3
          obtain ⟨z0, z1, z2⟩ := HD.out _ (rd_mem (d := d') (k := i) (by omega))
          unfold TOP at z2
          have hcl2 : (d'.take i).countP (inS addr) ≤ i := Nat.le_trans List.countP_le_length (by simp; omega)
          have HS := Lib.hid (take_next (d := d') (k := i) (by omega))
          have hba : Below wr.heap.size wr ((wr.alloc (.cells (ES z33) 33)).setRow wr.heap.size (ES (rd_T33 d' i))) := below_setRow ((Below.refl _ wr).alloc (Nat.le_refl _) _) (Nat.le_refl _) _
          have HCv := Lib.hid (Kd.C_below hCr hba)
          have HBv := Lib.hid (bk hBr hBr.size hba)
          clear hba
          generalize hcv : cR + (d'.take i).countP (inS addr) = cv at *
          have w5 : IntKind.i64.wrap ((cv : Int) + 1) = (cv : Int) + 1 := IntWalk.i64_in _ (by omega)
          have w7 : IntKind.i64.wrap ((i : Int) + 1) = (i : Int) + 1 := IntWalk.i64_in _ (by omega)
          have w6 : IntKind.i64.wrap (addr - (rd_T33 d' i).f0) = addr - (rd_T33 d' i).f0 := IntWalk.i64_in _ (by omega)
          by_cases h1 : (rd_T33 d' i).f0 ≤ addr
          · by_cases h2 : addr - (rd_T33 d' i).f0 < (rd_T33 d' i).f1
            · have HO := Lib.hid (show inS addr (rd_T33 d' i) = true by rw [inS]; simp; omega)
              have q1 := decide_eq_true h1
              have q2 := decide_eq_true h2
              clear h1 h2 hCr hBr
              go_wp2
              go_roundw
              case rel =>
                refine ⟨i + 1, by omega, ?_, congrArg (Value.int .i64) (by omega), HCv.out, HBv.out⟩
                rw [HS.out, List.countP_append, List.countP_singleton, HO.out, if_pos rfl, ← Nat.add_assoc, hcv]
                exact congrArg (Value.int .i64) (by simp)
              case measure => simp [intOf]; omega
            · have HO := Lib.hid (show inS addr (rd_T33 d' i) = false by rw [inS]; simp; omega)
              have q1 := decide_eq_true h1
              have q2 := decide_eq_false h2
              clear h1 h2 hCr hBr
              go_wp2
              go_roundw
              case rel =>
                refine ⟨i + 1, by omega, ?_, congrArg (Value.int .i64) (by omega), HCv.out, HBv.out⟩
                rw [HS.out, List.countP_append, List.countP_singleton, HO.out, ← Nat.add_assoc, hcv]
                exact congrArg (Value.int .i64) (by simp)
              case measure => simp [intOf]; omega
          · have HO := Lib.hid (show inS addr (rd_T33 d' i) = false by rw [inS]; simp; omega)
            have q1 := decide_eq_false h1
            clear h1 hCr hBr
            go_wp2
            go_roundw
            case rel =>
              refine ⟨i + 1, by omega, ?_, congrArg (Value.int .i64) (by omega), HCv.out, HBv.out⟩
              rw [HS.out, List.countP_append, List.countP_singleton, HO.out, ← Nat.add_assoc, hcv]
              exact congrArg (Value.int .i64) (by simp)
            case measure => simp [intOf]; omega
        · obtain rfl : n = i := by omega
          rw [List.take_of_length_le (by omega)]
          have hc1 : cR + d'.countP (inS addr) = 1 := HP.out
          rw [hc1]
          have hnl : decide ((n : Int) < n) = false := decide_eq_false (by omega)
          go_wp2
          go_ret
          exact ⟨rfl, hBr⟩
end Go.Proofs.Ytjkbocejdjnfiaa.Bs

namespace Go.Proofs.Ytjkbocejdjnfiaa.Bs
open Go.RowKit Go.Shelf Go.Proofs.Ytjkbocejdjnfiaa.IAll Go.Proofs.YtjkbocejdjnfiaaW.PrintWords Go.Proofs.YtjkbocejdjnfiaaW.PrintLast Go.Proofs.YtjkbocejdjnfiaaW.PrintMore
def Ev {α : Type} (f : Nat → Option α) (r : α) : Prop := ∃ k, f k = some r
theorem Ev.step {α : Type} {f g : Nat → Option α} {r : α} (h : Ev g r) (hs : ∀ k, f (k + 1) = g k) : Ev f r := by
  obtain ⟨k, hk⟩ := h
  exact ⟨k + 1, (hs k).trans hk⟩
theorem Ev.now {α : Type} {f : Nat → Option α} {r : α} (hs : f 1 = some r) : Ev f r := ⟨1, hs⟩
theorem rright_is (s : Sp) : crierref05_Right.f s.f0 s.f1 s.f2 s.f3 = some (rightB s) := by
  rw [← right_is]
  unfold crierref05_Right.f bus_right.f
  by_cases h1 : s.f1 ≥ 1
  · by_cases h2 : s.f1 ≤ 1099511627776
    · by_cases h0 : s.f0 ≥ 0
      · have e : wrap64 (1099511627776 - s.f1) = 1099511627776 - s.f1 := IntWalk.wrap64_in _ (by omega)
        rw [if_pos h1, if_pos h2, if_pos h0, if_pos h0, if_pos h1, if_pos h2, e]
        by_cases h3 : s.f0 ≤ 1099511627776
        · have e2 : wrap64 (s.f0 + s.f1) = s.f0 + s.f1 := IntWalk.wrap64_in _ (by omega)
          rw [if_pos h3, e2]
          by_cases h4 : s.f0 + s.f1 ≤ 1099511627776
          · rw [if_pos h4, if_pos (show s.f0 ≤ 1099511627776 - s.f1 by omega)]
          · rw [if_neg h4, if_neg (show ¬ s.f0 ≤ 1099511627776 - s.f1 by omega)]
        · rw [if_neg h3, if_neg (show ¬ s.f0 ≤ 1099511627776 - s.f1 by omega)]
      · rw [if_pos h1, if_pos h2, if_neg h0, if_neg h0]
    · rw [if_pos h1, if_neg h2]
      by_cases h0 : s.f0 ≥ 0
      · rw [if_pos h0, if_pos h1, if_neg h2]
      · rw [if_neg h0]
  · rw [if_neg h1]
    by_cases h0 : s.f0 ≥ 0
    · rw [if_pos h0, if_neg h1]
    · rw [if_neg h0]
theorem w64n {k : Nat} (h : k ≤ 4398046511104) : wrap64 ((k : Int) + 1) = ((k + 1 : Nat) : Int) := IntWalk.wrap64_in _ (by omega)
theorem rd_lt {d : List Sp} {k : Nat} (h : k < d.length) : d.drop k = rd_T33 d k :: d.drop (k + 1) := by
  rw [List.drop_eq_getElem_cons h, rd_T33, Int.toNat_natCast, List.getD_eq_getElem?_getD, List.getElem?_eq_getElem h]; rfl
/-- a span is put among sorted ones -/
def insR (x : Sp) : List Sp → List Sp
  | [] => [x]
  | y :: r => if x.f0 < y.f0 then x :: y :: r else y :: insR x r
theorem insR_len (x : Sp) : ∀ l : List Sp, (insR x l).length = l.length + 1
  | [] => rfl
  | y :: r => by
    unfold insR
    split
    · rfl
    · rw [List.length_cons, insR_len x r, List.length_cons]
theorem insR_perm (x : Sp) : ∀ l : List Sp, (insR x l).Perm (x :: l)
  | [] => List.Perm.refl _
  | y :: r => by
    unfold insR
    split
    · exact List.Perm.refl _
    · exact ((insR_perm x r).cons y).trans (List.Perm.swap x y r)
def insAll (o : List Sp) (l : List Sp) : List Sp := l.foldl (fun o x => insR x o) o
theorem insAll_perm : ∀ (l o : List Sp), (insAll o l).Perm (l ++ o)
  | [], _ => List.Perm.refl _
  | x :: l, o => (insAll_perm l (insR x o)).trans (((insR_perm x o).append_left l).trans (List.perm_middle))
/-- sorted, as a chain of pairs -/
def SrtP (l : List Sp) : Prop := l.Pairwise (fun a b => a.f0 ≤ b.f0)
theorem insR_srt (x : Sp) : ∀ l : List Sp, SrtP l → SrtP (insR x l)
  | [], _ => List.pairwise_singleton _ _
  | y :: r, h => by
    obtain ⟨h1, h2⟩ := List.pairwise_cons.1 h
    unfold insR
    split
    · rename_i hl
      refine List.pairwise_cons.2 ⟨fun z hz => ?_, h⟩
      rcases List.mem_cons.1 hz with rfl | hz
      · exact Int.le_of_lt hl
      · have := h1 z hz; omega
    · rename_i hl
      refine List.pairwise_cons.2 ⟨fun z hz => ?_, insR_srt x r h2⟩
      rcases List.mem_cons.1 ((insR_perm x r).mem_iff.1 hz) with rfl | hz
      · omega
      · exact h1 z hz
theorem insAll_srt : ∀ (l o : List Sp), SrtP o → SrtP (insAll o l)
  | [], _, h => h
  | x :: l, o, h => insAll_srt l _ (insR_srt x o h)
theorem rd_get {l : List Sp} {i : Nat} (h : i < l.length) : rd_T33 l i = l[i] := by
  rw [rd_T33, Int.toNat_natCast, List.getD_eq_getElem?_getD, List.getElem?_eq_getElem h]; rfl
theorem srt_iff {l : List Sp} : SrtP l ↔ Srt l := by
  unfold SrtP
  rw [List.pairwise_iff_getElem]
  constructor
  · intro h i j hij hj
    rw [rd_get hj, rd_get (by omega)]
    exact h i j (by omega) hj hij
  · intro h i j hi hj hij
    have := h i j hij hj
    rwa [rd_get hj, rd_get hi] at this
/-- two spans share no address -/
def Ap2 (a b : Sp) : Prop := a.f0 + a.f1 ≤ b.f0 ∨ b.f0 + b.f1 ≤ a.f0
theorem Ap2.symm {a b : Sp} (h : Ap2 a b) : Ap2 b a := Or.symm h
theorem noovl_iff {l : List Sp} (hs : Srt l) (hD : ∀ s ∈ l, Rgt s) : NoOvl l ↔ l.Pairwise Ap2 := by
  rw [List.pairwise_iff_getElem]
  constructor
  · intro h i j hi hj hij
    have := apart hs h hij hj
    rw [rd_get hj, rd_get hi] at this
    exact .inl this
  · intro h k hk
    have h1 := h k (k + 1) (by omega) hk (by omega)
    have h2 := hs k (k + 1) (by omega) hk
    have h3 := hD _ (rd_mem hk)
    have h4 := hD _ (rd_mem (d := l) (k := k) (by omega))
    rw [← rd_get hk, ← rd_get (i := k) (by omega)] at h1
    obtain ⟨-, a1, -⟩ := h3
    obtain ⟨-, b1, -⟩ := h4
    rcases h1 with h1 | h1
    · exact h1
    · omega
theorem eq_sorted : ∀ (a b : List Sp), a.Perm b → a.Pairwise (fun s t => s.f0 < t.f0) → b.Pairwise (fun s t => s.f0 < t.f0) → a = b
  | [], b, hp, _, _ => (List.nil_perm.1 hp).symm
  | x :: a, [], hp, _, _ => absurd (List.perm_nil.1 hp) (by simp)
  | x :: a, y :: b, hp, ha, hb => by
    obtain ⟨a1, a2⟩ := List.pairwise_cons.1 ha
    obtain ⟨b1, b2⟩ := List.pairwise_cons.1 hb
    have hxy : x = y := by
      rcases List.mem_cons.1 (hp.mem_iff.1 (List.mem_cons_self ..)) with h | h
      · exact h
      · rcases List.mem_cons.1 (hp.mem_iff.2 (List.mem_cons_self ..)) with h' | h'
        · exact h'.symm
        · have := b1 x h; have := a1 y h'; omega
    subst hxy
    rw [eq_sorted a b (List.perm_cons _ |>.1 hp) a2 b2]
theorem strict {l : List Sp} (hs : Srt l) (hn : NoOvl l) (hD : ∀ s ∈ l, Rgt s) : l.Pairwise (fun s t => s.f0 < t.f0) := by
  rw [List.pairwise_iff_getElem]
  intro i j hi hj hij
  have := apart hs hn hij hj
  obtain ⟨-, h, -⟩ := hD _ (rd_mem hi)
  rw [rd_get hi] at h
  rw [rd_get hj, rd_get hi] at this
  omega
/-- there is one bus at most, in whatever order the spans come -/
theorem one_bus {d a b : List Sp} (hD : ∀ s ∈ d, Rgt s) (ha : a.Perm d) (hb : b.Perm d) (sa : Srt a) (sb : Srt b) : (NoOvl a ↔ NoOvl b) ∧ (NoOvl a → a = b) := by
  have da : ∀ s ∈ a, Rgt s := fun s h => hD s (ha.mem_iff.1 h)
  have db : ∀ s ∈ b, Rgt s := fun s h => hD s (hb.mem_iff.1 h)
  have hi : NoOvl a ↔ NoOvl b := by
    rw [noovl_iff sa da, noovl_iff sb db]
    exact List.Perm.pairwise_iff (fun h => Ap2.symm h) (ha.trans hb.symm)
  exact ⟨hi, fun h => eq_sorted a b (ha.trans hb.symm) (strict sa h da) (strict sb (hi.1 h) db)⟩
section New
variable {d : List Sp} {r : List Sp × Int}
theorem new_l4 {o : List Sp} (ho : o.length ≤ 32) (hD : ∀ s ∈ o, Rgt s) {i : Nat} (hi : i < o.length) : ∀ (m j : Nat), i = j + m →
    (Ev (fun k => crierref05_New.l4 k o i j) ([], 50) ∧ ¬ o.Pairwise Ap2) ∨ ((∀ k', j ≤ k' → k' < i → Ap2 (rd_T33 o k') (rd_T33 o i)) ∧ ∀ r, Ev (fun k => crierref05_New.l3 k o ((i + 1 : Nat) : Int)) r → Ev (fun k => crierref05_New.l4 k o i j) r)
  | 0, j, e => by
    refine .inr ⟨fun k' h1 h2 => by omega, fun r h => h.step fun k => ?_⟩
    rw [crierref05_New.l4, if_neg (by omega), w64n (by omega)]
  | m + 1, j, e => by
    obtain ⟨i0, i1, i2⟩ := hD _ (rd_mem hi)
    obtain ⟨j0, j1, j2⟩ := hD _ (rd_mem (d := o) (k := j) (by omega))
    unfold TOP at i2 j2
    have e1 : wrap64 ((rd_T33 o j).f0 + (rd_T33 o j).f1) = (rd_T33 o j).f0 + (rd_T33 o j).f1 := IntWalk.wrap64_in _ (by omega)
    have e2 : wrap64 ((rd_T33 o i).f0 + (rd_T33 o i).f1) = (rd_T33 o i).f0 + (rd_T33 o i).f1 := IntWalk.wrap64_in _ (by omega)
    have hs : ∀ k, crierref05_New.l4 (k + 1) o i j = if (rd_T33 o i).f0 < (rd_T33 o j).f0 + (rd_T33 o j).f1 then (if (rd_T33 o j).f0 < (rd_T33 o i).f0 + (rd_T33 o i).f1 then some ([], 50) else crierref05_New.l4 k o i ((j + 1 : Nat) : Int)) else crierref05_New.l4 k o i ((j + 1 : Nat) : Int) := by
      intro k
      rw [crierref05_New.l4, if_pos (by omega), if_pos (by omega), if_pos (by omega), if_pos (by omega), if_pos (by omega), e1, e2, w64n (by omega)]
    by_cases hc : (rd_T33 o i).f0 < (rd_T33 o j).f0 + (rd_T33 o j).f1 ∧ (rd_T33 o j).f0 < (rd_T33 o i).f0 + (rd_T33 o i).f1
    · refine .inl ⟨Ev.now (by rw [hs, if_pos hc.1, if_pos hc.2]), fun hp => ?_⟩
      have := List.pairwise_iff_getElem.1 hp j i (by omega) hi (by omega)
      rw [← rd_get hi, ← rd_get (i := j) (by omega)] at this
      rcases this with h | h
      · obtain ⟨h1, -⟩ := hc; omega
      · obtain ⟨-, h1⟩ := hc; omega
    · have hs2 : ∀ k, crierref05_New.l4 (k + 1) o i j = crierref05_New.l4 k o i ((j + 1 : Nat) : Int) := by
        intro k
        rw [hs]
        split
        · split
          · rename_i a b; exact absurd ⟨a, b⟩ hc
          · rfl
        · rfl
      rcases new_l4 ho hD hi m (j + 1) (by omega) with ⟨h1, h2⟩ | ⟨h1, h2⟩
      · exact .inl ⟨h1.step hs2, h2⟩
      · refine .inr ⟨fun k' a b => ?_, fun r h => (h2 r h).step hs2⟩
        rcases Nat.lt_or_ge j k' with c | c
        · exact h1 k' c b
        · obtain rfl : k' = j := by omega
          unfold Ap2
          omega
theorem new_l3 {o : List Sp} (ho : o.length ≤ 32) (hD : ∀ s ∈ o, Rgt s) : ∀ (m i : Nat), o.length = i + m → (∀ a b : Nat, a < b → b < i → Ap2 (rd_T33 o a) (rd_T33 o b)) →
    (Ev (fun k => crierref05_New.l3 k o i) ([], 50) ∧ ¬ o.Pairwise Ap2) ∨ (Ev (fun k => crierref05_New.l3 k o i) (o, 0) ∧ o.Pairwise Ap2)
  | 0, i, e, hp => by
    refine .inr ⟨Ev.now (by rw [crierref05_New.l3, if_neg (by omega)]), List.pairwise_iff_getElem.2 fun a b ha hb hab => ?_⟩
    rw [← rd_get ha, ← rd_get hb]
    exact hp a b hab (by omega)
  | m + 1, i, e, hp => by
    have hs : ∀ k, crierref05_New.l3 (k + 1) o i = crierref05_New.l4 k o i ((0 : Nat) : Int) := by
      intro k
      rw [crierref05_New.l3, if_pos (by omega)]; rfl
    rcases new_l4 ho hD (i := i) (by omega) i 0 (by omega) with ⟨h1, h2⟩ | ⟨h1, h2⟩
    · exact .inl ⟨h1.step hs, h2⟩
    · have hp' : ∀ a b : Nat, a < b → b < i + 1 → Ap2 (rd_T33 o a) (rd_T33 o b) := by
        intro a b h3 h4
        rcases Nat.lt_or_ge b i with c | c
        · exact hp a b h3 c
        · obtain rfl : b = i := by omega
          exact h1 a (by omega) h3
      rcases new_l3 ho hD m (i + 1) (by omega) hp' with ⟨a, b⟩ | ⟨a, b⟩
      · exact .inl ⟨(h2 _ a).step hs, b⟩
      · exact .inr ⟨(h2 _ a).step hs, b⟩
theorem new_l2t {o : List Sp} (ho : o.length ≤ 32) {i : Nat} : ∀ (m j : Nat) (nx : List Sp), o.length = j + m → nx.length ≤ 64 → nx.length = j + 1 → i ≤ 32 → Ev (fun k => crierref05_New.l1 k d (nx ++ o.drop j) ((i + 1 : Nat) : Int)) r → Ev (fun k => crierref05_New.l2 k d o i nx true j) r
  | 0, j, nx, e, hn, _, hi, h => by
    refine h.step fun k => ?_
    rw [crierref05_New.l2, if_neg (by omega), if_pos rfl, w64n (by omega), List.drop_eq_nil_of_le (by omega), List.append_nil]
  | m + 1, j, nx, e, hn, hl, hi, h => by
    refine (new_l2t ho m (j + 1) (nx ++ [rd_T33 o j]) (by omega) (by simp; omega) (by simp; omega) hi ?_).step fun k => ?_
    · rw [List.append_assoc, List.singleton_append, ← rd_lt (by omega)]
      exact h
    · rw [crierref05_New.l2, if_pos (by omega), if_pos rfl, if_pos (by omega), if_pos (by omega), w64n (by omega)]
theorem new_l2f {o : List Sp} (ho : o.length ≤ 32) (hd : d.length ≤ 32) {i : Nat} (hi : i < d.length) : ∀ (m j : Nat) (nx : List Sp), o.length = j + m → nx.length = j → Ev (fun k => crierref05_New.l1 k d (nx ++ insR (rd_T33 d i) (o.drop j)) ((i + 1 : Nat) : Int)) r → Ev (fun k => crierref05_New.l2 k d o i nx false j) r
  | 0, j, nx, e, hn, h => by
    refine h.step fun k => ?_
    rw [crierref05_New.l2, if_neg (by omega), if_neg (by decide), if_pos (by omega), if_pos (by omega), if_pos (by omega), w64n (by omega), List.drop_eq_nil_of_le (by omega)]
    rfl
  | m + 1, j, nx, e, hn, h => by
    rw [rd_lt (d := o) (k := j) (by omega)] at h
    unfold insR at h
    by_cases hc : (rd_T33 d i).f0 < (rd_T33 o j).f0
    · rw [if_pos hc] at h
      refine (new_l2t (d := d) (r := r) (i := i) ho m (j + 1) (nx ++ [rd_T33 d i] ++ [rd_T33 o j]) (by omega) (by simp; omega) (by simp; omega) (by omega) ?_).step fun k => ?_
      · rw [List.append_assoc, List.append_assoc, List.singleton_append, List.singleton_append]
        exact h
      · rw [crierref05_New.l2, if_pos (by omega), if_neg (by decide), if_pos (by omega), if_pos (by omega), if_pos (by omega), if_pos hc, if_pos (by omega), Option.bind_some, if_pos (by simp; omega), w64n (by omega)]
    · rw [if_neg hc] at h
      refine (new_l2f ho hd hi m (j + 1) (nx ++ [rd_T33 o j]) (by omega) (by simp; omega) ?_).step fun k => ?_
      · rw [List.append_assoc, List.singleton_append]
        exact h
      · rw [crierref05_New.l2, if_pos (by omega), if_neg (by decide), if_pos (by omega), if_pos (by omega), if_pos (by omega), if_neg hc, if_pos (by omega), w64n (by omega)]
theorem new_l1 (hd : d.length ≤ 32) : ∀ (m i : Nat) (o : List Sp), d.length = i + m → o.length = i → Ev (fun k => crierref05_New.l3 k (insAll o (d.drop i)) 0) r → Ev (fun k => crierref05_New.l1 k d o i) r
  | 0, i, o, e, ho, h => by
    refine h.step fun k => ?_
    rw [crierref05_New.l1, if_neg (by omega), List.drop_eq_nil_of_le (by omega)]
    rfl
  | m + 1, i, o, e, ho, h => by
    refine (new_l2f (d := d) (r := r) (o := o) (by omega) hd (i := i) (by omega) o.length 0 [] (by omega) rfl ?_).step fun k => ?_
    · refine new_l1 hd m (i + 1) _ (by omega) (by rw [List.nil_append, insR_len]; simp; omega) ?_
      rw [rd_lt (d := d) (k := i) (by omega)] at h
      exact h
    · rw [crierref05_New.l1, if_pos (by omega)]; rfl
theorem new_l0 (hd : d.length ≤ 32) : ∀ (m i : Nat), d.length = i + m → (∀ y ∈ d.drop i, rightB y = true) → Ev (fun k => crierref05_New.l1 k d [] 0) r → Ev (fun k => crierref05_New.l0 k d i) r
  | 0, i, e, _, h => by
    refine h.step fun k => ?_
    rw [crierref05_New.l0, if_neg (by omega)]
  | m + 1, i, e, hR, h => by
    rw [rd_lt (d := d) (k := i) (by omega)] at hR
    refine (new_l0 hd m (i + 1) (by omega) (fun y hy => hR y (List.mem_cons_of_mem _ hy)) h).step fun k => ?_
    rw [crierref05_New.l0, if_pos (by omega), if_pos (by omega), rright_is, Option.bind_some, hR _ (List.mem_cons_self ..), if_pos rfl, w64n (by omega)]
theorem new_l0b (hd : d.length ≤ 32) : ∀ (m i : Nat), d.length = i + m → (∃ y ∈ d.drop i, rightB y = false) → Ev (fun k => crierref05_New.l0 k d i) ([], 1)
  | 0, i, e, h => by
    rw [List.drop_eq_nil_of_le (by omega)] at h
    obtain ⟨y, hy, -⟩ := h
    cases hy
  | m + 1, i, e, h => by
    rw [rd_lt (d := d) (k := i) (by omega)] at h
    cases hb : rightB (rd_T33 d i) with
    | false => exact Ev.now (by rw [crierref05_New.l0, if_pos (by omega), if_pos (by omega), rright_is, Option.bind_some, hb, if_neg (by decide)])
    | true =>
      obtain ⟨y, hy, h2⟩ := h
      have hy' : y ∈ d.drop (i + 1) := by
        rcases List.mem_cons.1 hy with rfl | hy
        · rw [hb] at h2; cases h2
        · exact hy
      refine (new_l0b hd m (i + 1) (by omega) ⟨y, hy', h2⟩).step fun k => ?_
      rw [crierref05_New.l0, if_pos (by omega), if_pos (by omega), rright_is, Option.bind_some, hb, if_pos rfl, w64n (by omega)]
end New
/-- the document's New -/
theorem refNew (d : List Sp) : (newBad d ∧ Ev (fun k => crierref05_New.f k d) ([], 1)) ∨
    (¬ newBad d ∧ ∃ d' : List Sp, d'.Perm d ∧ Srt d' ∧ ((¬ NoOvl d' ∧ Ev (fun k => crierref05_New.f k d) ([], 50)) ∨ (NoOvl d' ∧ Ev (fun k => crierref05_New.f k d) (d', 0)))) := by
  by_cases h32 : 32 < d.length
  · exact .inl ⟨.inl h32, ⟨0, by show crierref05_New.f 0 d = _; rw [crierref05_New.f, if_pos (by omega)]⟩⟩
  · have hf : ∀ k, crierref05_New.f k d = crierref05_New.l0 k d ((0 : Nat) : Int) := fun k => by rw [crierref05_New.f, if_neg (by omega)]; rfl
    have hfe : (fun k => crierref05_New.f k d) = fun k => crierref05_New.l0 k d ((0 : Nat) : Int) := funext hf
    rw [hfe]
    by_cases hb : ∃ s ∈ d, rightB s = false
    · exact .inl ⟨.inr hb, new_l0b (by omega) d.length 0 (by omega) (by simpa using hb)⟩
    · have hR : ∀ y ∈ d, rightB y = true := fun y hy => by
        cases h : rightB y with
        | true => rfl
        | false => exact absurd ⟨y, hy, h⟩ hb
      have hnb : ¬ newBad d := by
        rintro (h | h)
        · exact h32 h
        · exact hb h
      have hp : (insAll [] d).Perm d := by simpa using insAll_perm d []
      have hs : Srt (insAll [] d) := srt_iff.1 (insAll_srt d [] List.Pairwise.nil)
      have hD : ∀ s ∈ insAll [] d, Rgt s := fun s h => (right_rgt (hR s (hp.mem_iff.1 h))).1
      have hl : (insAll [] d).length ≤ 32 := by rw [hp.length_eq]; omega
      refine .inr ⟨hnb, _, hp, hs, ?_⟩
      rw [noovl_iff hs hD]
      rcases new_l3 hl hD (insAll [] d).length 0 (by omega) (fun a b _ h => by omega) with ⟨a, b⟩ | ⟨a, b⟩
      · exact .inl ⟨b, new_l0 (by omega) d.length 0 (by omega) (by simpa using hR) (new_l1 (by omega) d.length 0 [] (by omega) rfl a)⟩
      · exact .inr ⟨b, new_l0 (by omega) d.length 0 (by omega) (by simpa using hR) (new_l1 (by omega) d.length 0 [] (by omega) rfl a)⟩
theorem free_j2 {d : List Sp} {e x6 x8 : Int} {x5 : List Int} {x7 : Nat} {r : List Int} (hl : x5.length ≤ 128) (hx7 : x7 < d.length) (hd : d.length ≤ 64) (h0 : 0 ≤ x6) (h8 : x8 ≤ 9223372036854775807) (hR : Rgt (rd_T33 d x7))
    (h : Ev (fun k => crierref05_Free.l0 k d e (x5 ++ (if x6 < x8 then [x6, x8 - x6] else [])) ((rd_T33 d x7).f0 + (rd_T33 d x7).f1) ((x7 + 1 : Nat) : Int)) r) : Ev (fun k => crierref05_Free.j2 k d e x5 x6 x7 x8) r := by
  obtain ⟨r0, r1, r2⟩ := hR
  unfold TOP at r2
  have e1 : wrap64 ((rd_T33 d x7).f0 + (rd_T33 d x7).f1) = (rd_T33 d x7).f0 + (rd_T33 d x7).f1 := IntWalk.wrap64_in _ (by omega)
  refine h.step fun k => ?_
  rw [crierref05_Free.j2]
  by_cases hc : x6 < x8
  · have e2 : wrap64 (x8 - x6) = x8 - x6 := IntWalk.wrap64_in _ (by omega)
    rw [if_pos (show x8 > x6 from hc), if_pos hc, Option.bind_some, if_pos (by simp; omega), Option.bind_some, if_pos (by omega), if_pos (by omega), e1, e2, w64n (by omega)]
  · rw [if_neg (show ¬ x8 > x6 from hc), if_neg hc, if_pos (by omega), if_pos (by omega), e1, w64n (by omega), List.append_nil]
theorem free_l0 {d : List Sp} (hd : d.length ≤ 64) (hD : ∀ s ∈ d, Rgt s) {e : Int} (he : e ≤ 9223372036854775807) : ∀ (m i : Nat), d.length = i + m → Ev (fun k => crierref05_Free.l0 k d e (flI (frp e (d.take i)).1) (frp e (d.take i)).2 i) (flI (fr e d))
  | 0, i, hm => by
    have hi : d.take i = d := List.take_of_length_le (by omega)
    rw [hi]
    obtain ⟨h0, -⟩ := frp_at (e := e) hD
    have hlen : (flI (frp e d).1).length ≤ 2 * (d.length + 1) := by
      have := fr_len e d
      rw [flI_len]
      rw [fr, List.length_append] at this
      omega
    have hfin : Ev (fun k => crierref05_Free.l0 k d e (flI (fr e d)) (frp e d).2 ((i + 1 : Nat) : Int)) (flI (fr e d)) := Ev.now (by rw [crierref05_Free.l0, if_neg (by omega)])
    have hj2 : Ev (fun k => crierref05_Free.j2 k d e (flI (frp e d).1) (frp e d).2 i e) (flI (fr e d)) := by
      refine hfin.step fun k => ?_
      rw [crierref05_Free.j2, fr]
      by_cases hc : (frp e d).2 < e
      · have e2 : wrap64 (e - (frp e d).2) = e - (frp e d).2 := IntWalk.wrap64_in _ (by omega)
        rw [if_pos (show e > (frp e d).2 from hc), if_pos hc, Option.bind_some, if_pos (by simp; omega), Option.bind_some, if_neg (by omega), e2, w64n (by omega), flI_snoc]
      · rw [if_neg (show ¬ e > (frp e d).2 from hc), if_neg hc, if_neg (by omega), w64n (by omega), List.append_nil]
    refine (hj2.step (f := fun k => crierref05_Free.j1 k d e (flI (frp e d).1) (frp e d).2 i e false) fun k => ?_).step fun k => ?_
    · show crierref05_Free.j1 (k + 1) d e _ _ _ _ _ = _
      rw [crierref05_Free.j1, if_neg (by decide)]
    · show crierref05_Free.l0 (k + 1) d e _ _ _ = _
      rw [crierref05_Free.l0, if_pos (by omega), if_neg (by omega)]
  | m + 1, i, hm => by
    have hnx := take_next (d := d) (k := i) (by omega)
    have hDp : ∀ s ∈ d.take i, Rgt s := fun s h => hD s (List.mem_of_mem_take h)
    obtain ⟨h0, -⟩ := frp_at (e := e) hDp
    have hR := hD _ (rd_mem (d := d) (k := i) (by omega))
    have ih := free_l0 hd hD he m (i + 1) (by omega)
    rw [hnx, frp_snoc, stp] at ih
    have hlen : (flI (frp e (d.take i)).1).length ≤ 128 := by
      have := fr_len e (d.take i)
      rw [flI_len]
      rw [fr, List.length_append, List.length_take] at this
      omega
    obtain ⟨r0, r1, r2⟩ := id hR
    unfold TOP at r2
    have key : ∀ x8 : Int, x8 = min e (rd_T33 d i).f0 → Ev (fun k => crierref05_Free.j2 k d e (flI (frp e (d.take i)).1) (frp e (d.take i)).2 i x8) (flI (fr e d)) := by
      rintro x8 rfl
      refine free_j2 hlen (by omega) hd h0 (by omega) hR ?_
      by_cases hc : (frp e (d.take i)).2 < (rd_T33 d i).f0 ∧ (frp e (d.take i)).2 < e
      · rw [if_pos hc, flI_snoc] at ih
        rw [if_pos (by omega)]
        exact ih
      · rw [if_neg hc] at ih
        rw [if_neg (by omega)]
        rw [List.append_nil] at ih ⊢
        exact ih
    by_cases hb : (rd_T33 d i).f0 < e
    · refine ((key (rd_T33 d i).f0 (by omega)).step (f := fun k => crierref05_Free.j1 k d e (flI (frp e (d.take i)).1) (frp e (d.take i)).2 i e true) fun k => ?_).step fun k => ?_
      · show crierref05_Free.j1 (k + 1) d e _ _ _ _ _ = _
        rw [crierref05_Free.j1, if_pos rfl, if_pos (by omega), if_pos (by omega)]
      · show crierref05_Free.l0 (k + 1) d e _ _ _ = _
        rw [crierref05_Free.l0, if_pos (by omega), if_pos (by omega), if_pos (by omega), decide_eq_true hb]
    · refine ((key e (by omega)).step (f := fun k => crierref05_Free.j1 k d e (flI (frp e (d.take i)).1) (frp e (d.take i)).2 i e false) fun k => ?_).step fun k => ?_
      · show crierref05_Free.j1 (k + 1) d e _ _ _ _ _ = _
        rw [crierref05_Free.j1, if_neg (by decide)]
      · show crierref05_Free.l0 (k + 1) d e _ _ _ = _
        rw [crierref05_Free.l0, if_pos (by omega), if_pos (by omega), if_pos (by omega), decide_eq_false hb]
/-- the document's Free -/
theorem refFree {d : List Sp} (hd : d.length ≤ 64) (hD : ∀ s ∈ d, Rgt s) {e : Int} (he : e ≤ 9223372036854775807) : Ev (fun k => crierref05_Free.f k d e) (flI (fr e d)) :=
  free_l0 hd hD he d.length 0 (by omega)
theorem rd_flI {L : List (Int × Int)} {j : Nat} (h : j < L.length) : rd (flI L) ((2 * j : Nat) : Int) = (pq L j).1 ∧ rd (flI L) ((2 * j + 1 : Nat) : Int) = (pq L j).2 := by
  obtain ⟨h1, h2⟩ := flI_at L j h
  unfold rd
  rw [Int.toNat_natCast, Int.toNat_natCast, List.getD_eq_getElem?_getD, List.getD_eq_getElem?_getD, h1, h2]
  exact ⟨rfl, rfl⟩
theorem plcAt_is {a s : Int} (h1 : 1 ≤ s) : plcAt a s = if a % s = 0 then a else a + s - a % s := by
  have hs : s ≠ 0 := by omega
  have e1 : s * (a / s) + a % s = a := Int.mul_ediv_add_emod a s
  have e2 : 0 ≤ a % s := Int.emod_nonneg a hs
  have e3 : a % s < s := Int.emod_lt_of_pos a (by omega)
  unfold plcAt
  have e4 : a + s - 1 = (a % s + s - 1) + s * (a / s) := by omega
  rw [e4, Int.add_mul_ediv_left _ _ hs]
  split
  · rename_i hz
    have : (a % s + s - 1) / s = 0 := by rw [hz]; exact Int.ediv_eq_zero_of_lt (by omega) (by omega)
    rw [this, Int.zero_add, Int.mul_comm]
    omega
  · rename_i hz
    have : (a % s + s - 1) / s = 1 := by
      rw [show a % s + s - 1 = (a % s - 1) + s * 1 by omega, Int.add_mul_ediv_left _ _ hs, Int.ediv_eq_zero_of_lt (by omega) (by omega)]
      rfl
    rw [this, Int.add_mul, Int.one_mul, Int.mul_comm]
    omega
theorem place_l0 {L : List (Int × Int)} {sz st e : Int} (hs : 1 ≤ sz ∧ sz ≤ TOP) (ht : 1 ≤ st ∧ st ≤ TOP) (he : e ≤ TOP) (hL : L.length ≤ 128) (hb : ∀ p ∈ L, 0 ≤ p.1 ∧ 1 ≤ p.2 ∧ p.1 + p.2 ≤ e) : ∀ (m i : Nat), L.length = i + m →
    Ev (fun k => crierref05_Place.l0 k sz st (flI L) ((2 * i : Nat) : Int)) (match (L.drop i).find? (hitP sz st) with | some p => (plcAt p.1 st, 0) | none => (0, 2))
  | 0, i, hm => by
    have hl := flI_len L
    rw [List.drop_eq_nil_of_le (by omega)]
    exact Ev.now (by rw [crierref05_Place.l0, if_neg (by omega)]; rfl)
  | m + 1, i, hm => by
    have hl := flI_len L
    have hi : i < L.length := by omega
    obtain ⟨f1, f2⟩ := rd_flI hi
    obtain ⟨b0, b1, b2⟩ := hb _ (pq_mem hi)
    have hdr : L.drop i = pq L i :: L.drop (i + 1) := by
      rw [List.drop_eq_getElem_cons hi, pq, List.getD_eq_getElem?_getD, List.getElem?_eq_getElem hi]; rfl
    have hP := plcAt_is (a := (pq L i).1) ht.1
    have hPb := plcAt_bd b0 ht.1
    unfold TOP at hs ht he
    have w1 : wrap64 (((2 * i : Nat) : Int) + 1) = ((2 * i + 1 : Nat) : Int) := w64n (by omega)
    have w2 : wrap64 (((2 * i : Nat) : Int) + 2) = ((2 * (i + 1) : Nat) : Int) := IntWalk.wrap64_in _ (by omega)
    have w3 : wrap64 ((pq L i).1 + (pq L i).2) = (pq L i).1 + (pq L i).2 := IntWalk.wrap64_in _ (by omega)
    have w4 : wrap64 ((pq L i).1 + sz) = (pq L i).1 + sz := IntWalk.wrap64_in _ (by omega)
    have e2 : 0 ≤ (pq L i).1 % st := Int.emod_nonneg _ (by omega)
    have e3 : (pq L i).1 % st < st := Int.emod_lt_of_pos _ (by omega)
    have w5 : wrap64 ((pq L i).1 + st) = (pq L i).1 + st := IntWalk.wrap64_in _ (by omega)
    have w6 : wrap64 ((pq L i).1 + st - (pq L i).1 % st) = (pq L i).1 + st - (pq L i).1 % st := IntWalk.wrap64_in _ (by omega)
    have w7 : wrap64 ((pq L i).1 + st - (pq L i).1 % st + sz) = (pq L i).1 + st - (pq L i).1 % st + sz := IntWalk.wrap64_in _ (by omega)
    have hs1 : ∀ k, crierref05_Place.l0 (k + 1) sz st (flI L) ((2 * i : Nat) : Int) = if plcAt (pq L i).1 st + sz ≤ (pq L i).1 + (pq L i).2 then some (plcAt (pq L i).1 st, 0) else crierref05_Place.l0 k sz st (flI L) ((2 * (i + 1) : Nat) : Int) := by
      intro k
      rw [crierref05_Place.l0, if_pos (by omega), if_pos (by omega), if_neg (by omega), w1, w2, f1, f2, Int.tmod_eq_emod_of_nonneg b0, w3, w4, w5, w6, w7]
      by_cases hz : (pq L i).1 % st = 0
      · rw [if_pos hz] at hP
        rw [if_pos hz, if_pos (by omega), if_pos (by omega), hP]
      · rw [if_neg hz] at hP
        rw [if_neg hz, if_pos (by omega), if_pos (by omega), hP]
    have ih := place_l0 ⟨by omega, by unfold TOP; omega⟩ ⟨by omega, by unfold TOP; omega⟩ (by unfold TOP; omega) hL hb m (i + 1) (by omega) (sz := sz) (st := st) (e := e)
    rw [hdr]
    by_cases hh : plcAt (pq L i).1 st + sz ≤ (pq L i).1 + (pq L i).2
    · have q : hitP sz st (pq L i) = true := by unfold hitP; exact decide_eq_true (by omega)
      rw [List.find?_cons_of_pos q]
      exact Ev.now (by rw [hs1, if_pos hh])
    · have q : ¬ hitP sz st (pq L i) = true := by unfold hitP; simp; omega
      rw [List.find?_cons_of_neg q]
      exact ih.step fun k => by rw [hs1, if_neg hh]
/-- the document's Place -/
theorem refPlace {d : List Sp} (hd : d.length ≤ 64) (hD : ∀ s ∈ d, Rgt s) (sz st e : Int) : Ev (fun k => crierref05_Place.f k d sz st e) (plc d sz st e) := by
  have hj : ∀ b, b = decide (argBad sz st e) → Ev (fun k => crierref05_Place.j0 k d sz st e b) (plc d sz st e) := by
    rintro b rfl
    by_cases hb : argBad sz st e
    · exact Ev.now (by rw [crierref05_Place.j0, decide_eq_true hb, if_pos rfl, plc, if_pos hb])
    · rw [decide_eq_false hb]
      have hb' := hb
      unfold argBad at hb'
      obtain ⟨k1, h1⟩ := refFree hd hD (e := e) (by unfold TOP at hb'; omega)
      have hl := fr_len e d
      obtain ⟨k2, h2⟩ := place_l0 (L := fr e d) (sz := sz) (st := st) (e := e) (by omega) (by omega) (by omega) (by omega) (fr_bd hD) (fr e d).length 0 (by omega)
      have m1 : ∀ a k, crierref05_Free.f k d e = some (flI (fr e d)) → crierref05_Free.f (k + a) d e = some (flI (fr e d)) := by
        intro a
        induction a with
        | zero => exact fun k h => h
        | succ a ih => exact fun k h => by rw [← Nat.add_assoc]; exact crierref05_Free.mono d e (k + a) _ (ih k h)
      have m2 : ∀ a k r, crierref05_Place.l0 k sz st (flI (fr e d)) ((2 * 0 : Nat) : Int) = some r → crierref05_Place.l0 (k + a) sz st (flI (fr e d)) ((2 * 0 : Nat) : Int) = some r := by
        intro a
        induction a with
        | zero => exact fun k r h => h
        | succ a ih => exact fun k r h => by rw [← Nat.add_assoc]; exact (crierref05_Place.mono_l (k + a)).2 _ _ _ _ _ (ih k r h)
      refine ⟨k1 + k2 + 1, ?_⟩
      show crierref05_Place.j0 (k1 + k2 + 1) d sz st e false = _
      rw [crierref05_Place.j0, if_neg (by decide), m1 k2 k1 h1, Option.bind_some, Nat.add_comm k1 k2, plc, if_neg hb]
      exact m2 k1 k2 _ h2
  have hfe : (fun k => crierref05_Place.f k d sz st e) = fun k => crierref05_Place.j0 k d sz st e (decide (argBad sz st e)) := by
    funext k
    unfold crierref05_Place.f
    by_cases h1 : sz < 1
    · rw [if_pos h1, decide_eq_true (show argBad sz st e by unfold argBad TOP; omega)]
    rw [if_neg h1]
    by_cases h2 : sz > 1099511627776
    · rw [if_pos h2, decide_eq_true (show argBad sz st e by unfold argBad TOP; omega)]
    rw [if_neg h2]
    by_cases h3 : st < 1
    · rw [if_pos h3, decide_eq_true (show argBad sz st e by unfold argBad TOP; omega)]
    rw [if_neg h3]
    by_cases h4 : st > 1099511627776
    · rw [if_pos h4, decide_eq_true (show argBad sz st e by unfold argBad TOP; omega)]
    rw [if_neg h4]
    by_cases h5 : e < 0
    · rw [if_pos h5, decide_eq_true (show argBad sz st e by unfold argBad TOP; omega)]
    rw [if_neg h5]
    by_cases h6 : e > 1099511627776
    · rw [decide_eq_true h6, decide_eq_true (show argBad sz st e by unfold argBad TOP; omega)]
    · rw [decide_eq_false h6, decide_eq_false (show ¬ argBad sz st e by unfold argBad TOP; omega)]
  rw [hfe]
  exact hj _ rfl
end Go.Proofs.Ytjkbocejdjnfiaa.Bs

namespace Go.Proofs.Ytjkbocejdjnfiaa.Bs
open Go.RowKit Go.Shelf Go.Proofs.Ytjkbocejdjnfiaa.IAll Go.Proofs.YtjkbocejdjnfiaaW.PrintWords Go.Proofs.YtjkbocejdjnfiaaW.PrintLast Go.Proofs.YtjkbocejdjnfiaaW.PrintMore
attribute [local go_sem] Oper.semAt_some cell_row frozen_row isRow_setCell_eq rowAt_setCell_same rowAt_setCell_other isRow_alloc_eq rowAt_alloc rowAt_new rowAt_new' isRow_setRow_eq rowAt_setRow_same rowAt_setRow_other isRow_drew rowAt_drew size_setRow_ size_drew_ blk_ptr aggOf_agg below_alloc_e below_setCell_e below_setRow_e below_refl_e below_drew_r isRow_drewN rowAt_drewN below_drewN_e le_add_r asideP_alloc_e asideP_setCell_e asideP_setRow_e asideP_drew_e asideP_drewN_e asideP_refl_e cell_setRow_far cell_setCell_far cell_drew_ heap_setCell_far heap_setRow_far heap_drew_ ES_size ES_one ES_fold ES_0 ES_1 allOne_nil allOne_cons Value.oneCell'
attribute [local go_sem ↓] loadS storeS loadSg storeSg
/-- both buses, of what is handed in -/
theorem pair_new {w w' : World} {d : List Sp} {v : Value} {r : Int} (h : NewOut w w' d.length d v r) :
    (((r == 0) = false ∧ (r != 0) = true) ∧ v = .pointer none ∧ ∃ r1, Ev (fun k => crierref05_New.f k d) (r1, r)) ∨
    (r = 0 ∧ d.length ≤ 32 ∧ (∀ y ∈ d, Rgt y) ∧ ∃ d' : List Sp, d'.Perm d ∧ Srt d' ∧ NoOvl d' ∧ (∀ y ∈ d', Rgt y) ∧ d'.length = d.length ∧ Ev (fun k => crierref05_New.f k d) (d', 0) ∧
      ∃ g A' c', v = .pointer (some ⟨g, 0, none⟩) ∧ Row w' g #[.slice A' d'.length c'] ∧ d'.length ≤ c' ∧ Kd.C k33 w' A' d'.length d') := by
  rcases h with ⟨hb, rfl, rfl⟩ | ⟨hb, d1, hp, hs, h⟩
  · rcases refNew d with ⟨-, h⟩ | ⟨h, -⟩
    · exact .inl ⟨⟨rfl, rfl⟩, rfl, _, h⟩
    · exact absurd hb h
  · have h32 : d.length ≤ 32 := by
      rcases Nat.lt_or_ge 32 d.length with h | h
      · exact absurd (.inl h) hb
      · exact h
    have hD : ∀ y ∈ d, Rgt y := fun y hy => by
      refine (right_rgt ?_).1
      cases h : rightB y with
      | true => rfl
      | false => exact absurd (.inr ⟨y, hy, h⟩) hb
    rcases refNew d with ⟨h2, -⟩ | ⟨-, d2, hp2, hs2, h2⟩
    · exact absurd h2 hb
    obtain ⟨hi, he⟩ := one_bus hD hp hp2 hs hs2
    rcases h with ⟨hn, rfl, rfl⟩ | ⟨hn, rfl, g, A', c', rfl, -, hrow, hc', hC, -⟩
    · rcases h2 with ⟨-, h2⟩ | ⟨h2, -⟩
      · exact .inl ⟨⟨rfl, rfl⟩, rfl, _, h2⟩
      · exact absurd (hi.2 h2) hn
    · rcases h2 with ⟨h2, -⟩ | ⟨-, h2⟩
      · exact absurd (hi.1 hn) h2
      · rw [← he hn] at h2
        have hl := hp.length_eq
        rw [← hl] at hrow hc' hC
        exact .inr ⟨rfl, h32, hD, d1, hp, hs, hn, fun y hy => hD y (hp.mem_iff.1 hy), hl, h2, g, A', c', rfl, hrow, hc', hC⟩
theorem same_refl {l : List Int} (hl : l.length ≤ 4398046511104) : Ev (fun k => crierref01_Same.f k l l) true := by
  have h : ∀ m i : Nat, l.length = i + m → Ev (fun k => crierref01_Same.l0 k l l i) true := by
    intro m
    induction m with
    | zero => exact fun i e => Ev.now (by rw [crierref01_Same.l0, if_neg (by omega)])
    | succ m ih =>
      intro i e
      refine (ih (i + 1) (by omega)).step fun k => ?_
      rw [crierref01_Same.l0, if_pos (by omega), if_pos (by omega), if_pos (by omega), if_pos rfl, w64n (by omega)]
  obtain ⟨k, hk⟩ := h l.length 0 (by omega)
  exact ⟨k, by show crierref01_Same.f k l l = _; rw [crierref01_Same.f, if_pos rfl]; exact hk⟩
set_option maxRecDepth 100000 in
set_option maxHeartbeats 4000000 in
theorem frees_law (A : Option Addr) (c : Nat) (d : List Sp) (sz st e : Int) (w : World) (hr : Kd.C k33 w A d.length d) (hc : d.length ≤ c) (he : e ≤ 9223372036854775807) :
    Calls Try.prog 4 #[.slice A d.length c, .int .i64 sz, .int .i64 st, .int .i64 e] w fun en w' => en = .returned (.bool true) ∧ Below w.heap.size w w' := by
  go_enter Try.func4, Try.ntmps4
  go_wp2_with fail
  refine (awake_c w).mono ?_
  rintro en W1 ⟨rfl, hB1⟩
  have hC1 := Kd.C_below hr hB1
  clear hr
  go_wp2_with fail
  refine (New_c A d.length c d W1 hC1).mono ?_
  rintro en W2 ⟨v, r, rfl, hb2, ho⟩
  have hB2 : Below w.heap.size w W2 := bk hB1 hB1.size hb2
  have hC2 := Kd.C_below hC1 hb2
  clear hC1 hB1 hb2
  rcases pair_new ho with ⟨⟨q0, q1⟩, rfl, r1, k1, hk1⟩ | ⟨rfl, h32, -, d', -, -, -, hD, hl, ⟨k1, hk1⟩, g, A', c', rfl, hrow, hc', hC⟩
  · clear ho
    go_wp2_with fail
    refine (crierref05_New.calls k1 A c d r1 r W2 hC2 hc hk1).mono ?_
    rintro en W3 ⟨v3, rfl, -, hb3⟩
    have hB3 : Below w.heap.size w W3 := bk hB2 hB2.size hb3
    clear hC2 hB2 hb3 hk1
    go_wp2
    go_ret
    exact ⟨rfl, hB3⟩
  · clear ho
    have h32' : d'.length ≤ 32 := by omega
    clear hl h32
    have lg := hrow.lt
    have l2 := hB2.size
    go_wp2_with fail
    refine (crierref05_New.calls k1 A c d d' 0 W2 hC2 hc hk1).mono ?_
    rintro en W3 ⟨v3, rfl, hR3, hb3⟩
    obtain ⟨A3, c3, rfl, hc3, hC3⟩ := Kd.R_reads hR3
    have hCa := Kd.C_below hC hb3
    have hRa := hrow.below hb3 lg
    have hB3 : Below w.heap.size w W3 := bk hB2 l2 hb3
    clear hC2 hB2 hb3 hk1 hC hrow hR3 lg l2
    have lg := hRa.lt
    have l3 := hB3.size
    have HP := Lib.hid (Place_c A' d'.length c' d' g sz st e W3 hRa hCa hD)
    go_wp2_with fail
    refine HP.out.mono ?_
    rintro en W4 ⟨rfl, hb4⟩
    have hC4 := Kd.C_below hC3 hb4
    have hCb := Kd.C_below hCa hb4
    have hRb := hRa.below hb4 lg
    have hB4 : Below w.heap.size w W4 := bk hB3 l3 hb4
    clear HP hC3 hCa hRa hB3 hb4 lg l3
    have lg := hRb.lt
    have l4 := hB4.size
    obtain ⟨k2, hk2⟩ := refPlace (d := d') (by omega) hD sz st e
    have HP := Lib.hid (crierref05_Place.calls k2 A3 c3 d' sz st e (plc d' sz st e).1 (plc d' sz st e).2 W4 hC4 hc3 hk2)
    clear hk2
    generalize (plc d' sz st e).1 = p1 at *
    generalize (plc d' sz st e).2 = p2 at *
    go_wp2_with fail
    refine HP.out.mono ?_
    rintro en W5 ⟨rfl, hb5⟩
    have hC5 := Kd.C_below hC4 hb5
    have hCc := Kd.C_below hCb hb5
    have hRc := hRb.below hb5 lg
    have hB5 : Below w.heap.size w W5 := bk hB4 l4 hb5
    clear HP hC4 hCb hRb hB4 hb5 lg l4
    have lg := hRc.lt
    have l5 := hB5.size
    have HF := Lib.hid (free_k A' d'.length c' d' g e W5 hRc hCc hD (by omega) he)
    obtain ⟨k3, hk3⟩ := refFree (d := d') (by omega) hD he
    obtain ⟨k4, hk4⟩ := same_refl (l := flI (fr e d')) (by rw [flI_len]; have := fr_len e d'; omega)
    go_wp2_with fail
    refine HF.out.mono ?_
    rintro en W6 ⟨A6, c6, rfl, hc6, hC6, hb6⟩
    have hCd := Kd.C_below hC5 hb6
    have hB6 : Below w.heap.size w W6 := bk hB5 l5 hb6
    clear HF hC5 hCc hRc hB5 hb6 lg l5
    have l6 := hB6.size
    go_wp2_with fail
    refine (crierref05_Free.calls k3 A3 c3 d' e _ W6 hCd hc3 hk3).mono ?_
    rintro en W7 ⟨v7, rfl, hR7, hb7⟩
    obtain ⟨A7, c7, rfl, hc7, hC7⟩ := Kd.R_reads hR7
    have hCe := Kd.C_below hC6 hb7
    have hB7 : Below w.heap.size w W7 := bk hB6 l6 hb7
    clear hC6 hCd hR7 hB6 hb7 l6
    go_wp2_with fail
    refine (crierref01_Same.calls k4 A6 c6 _ A7 c7 _ true W7 hCe hc6 hC7 hc7 hk4).mono ?_
    rintro en W8 ⟨rfl, hb8⟩
    have hB8 : Below w.heap.size w W8 := bk hB7 hB7.size hb8.below
    clear hCe hC7 hB7 hb8
    go_wp2
    go_ret
    exact ⟨rfl, hB8⟩
end Go.Proofs.Ytjkbocejdjnfiaa.Bs

namespace Go.Proofs.Ytjkbocejdjnfiaa.Bs
open Go.RowKit Go.Shelf Go.Proofs.Ytjkbocejdjnfiaa.IAll Go.Proofs.YtjkbocejdjnfiaaW.PrintWords Go.Proofs.YtjkbocejdjnfiaaW.PrintLast Go.Proofs.YtjkbocejdjnfiaaW.PrintMore
attribute [local go_sem] Oper.semAt_some cell_row frozen_row isRow_setCell_eq rowAt_setCell_same rowAt_setCell_other isRow_alloc_eq rowAt_alloc rowAt_new rowAt_new' isRow_setRow_eq rowAt_setRow_same rowAt_setRow_other isRow_drew rowAt_drew size_setRow_ size_drew_ blk_ptr aggOf_agg below_alloc_e below_setCell_e below_setRow_e below_refl_e below_drew_r isRow_drewN rowAt_drewN below_drewN_e le_add_r asideP_alloc_e asideP_setCell_e asideP_setRow_e asideP_drew_e asideP_drewN_e asideP_refl_e cell_setRow_far cell_setCell_far cell_drew_ heap_setCell_far heap_setRow_far heap_drew_ ES_size ES_one ES_fold ES_0 ES_1 allOne_nil allOne_cons Value.oneCell'
attribute [local go_sem ↓] loadS storeS loadSg storeSg
theorem sameS_refl {l : List Sp} (hl : l.length ≤ 4398046511104) : Ev (fun k => crierlaw05_same.f k l l) true := by
  have h : ∀ m i : Nat, l.length = i + m → Ev (fun k => crierlaw05_same.l0 k l l i) true := by
    intro m
    induction m with
    | zero => exact fun i e => Ev.now (by rw [crierlaw05_same.l0, if_neg (by omega)])
    | succ m ih =>
      intro i e
      refine (ih (i + 1) (by omega)).step fun k => ?_
      rw [crierlaw05_same.l0, if_pos (by omega), if_pos (by omega), if_pos (by omega), if_neg (by simp), w64n (by omega)]
  obtain ⟨k, hk⟩ := h l.length 0 (by omega)
  exact ⟨k, by show crierlaw05_same.f k l l = _; rw [crierlaw05_same.f, if_pos rfl]; exact hk⟩
theorem wfu8 {n : Int} (h : (Lit.int .u8 n).wf = true) : 0 ≤ n ∧ n ≤ 255 := by
  simp [Lit.wf, IntKind.min, IntKind.max, IntKind.signed, IntKind.bits] at h
  omega
/-- the spans from the t-th on, then the others -/
def rot (d : List Sp) (t : Nat) : List Sp := d.drop (t % d.length) ++ d.take (t % d.length)
theorem rot_perm (d : List Sp) (t : Nat) : (rot d t).Perm d := by
  unfold rot
  refine List.perm_append_comm.trans ?_
  rw [List.take_append_drop]
theorem rot_len (d : List Sp) (t : Nat) : (rot d t).length = d.length := (rot_perm d t).length_eq
theorem rd_rot {d : List Sp} {t k : Nat} (h : k < d.length) : rd_T33 (rot d t) k = rd_T33 d ((k + t) % d.length : Nat) := by
  have hm : (k + t) % d.length < d.length := Nat.mod_lt _ (by omega)
  have ht : t % d.length < d.length := Nat.mod_lt _ (by omega)
  have e1 : (k + t) % d.length = (k + t % d.length) % d.length := by rw [Nat.add_mod, Nat.mod_eq_of_lt h]
  unfold rd_T33
  rw [Int.toNat_natCast, Int.toNat_natCast, List.getD_eq_getElem?_getD, List.getD_eq_getElem?_getD]
  congr 1
  unfold rot
  generalize (k + t) % d.length = m at *
  generalize t % d.length = r at *
  rw [List.getElem?_append, List.length_drop]
  split
  · rename_i hl
    rw [Nat.mod_eq_of_lt (by omega)] at e1
    rw [List.getElem?_drop, e1, Nat.add_comm]
  · rename_i hl
    rw [Nat.mod_eq_sub_mod (by omega), Nat.mod_eq_of_lt (by omega)] at e1
    rw [List.getElem?_take, if_pos (by omega)]
    congr 1
    omega
theorem newBad_perm {a b : List Sp} (h : a.Perm b) : newBad a ↔ newBad b := by
  unfold newBad
  rw [h.length_eq]
  constructor
  · rintro (h1 | ⟨s, h1, h2⟩)
    · exact .inl h1
    · exact .inr ⟨s, h.mem_iff.1 h1, h2⟩
  · rintro (h1 | ⟨s, h1, h2⟩)
    · exact .inl h1
    · exact .inr ⟨s, h.mem_iff.2 h1, h2⟩
theorem new_rgt {d : List Sp} (hb : ¬ newBad d) : ∀ y ∈ d, Rgt y := fun y hy => by
  refine (right_rgt ?_).1
  cases h : rightB y with
  | true => rfl
  | false => exact absurd (.inr ⟨y, hy, h⟩) hb
theorem new_32 {d : List Sp} (hb : ¬ newBad d) : d.length ≤ 32 := by
  rcases Nat.lt_or_ge 32 d.length with h | h
  · exact absurd (.inl h) hb
  · exact h
/-- two buses, of the same spans in two orders -/
theorem any_new {w w' u u' : World} {a b : List Sp} {n : Nat} {v v' : Value} {r r' : Int} (hp : b.Perm a) (h : NewOut w w' n a v r) (h' : NewOut u u' n b v' r') : r' = r ∧ ((v = .pointer none ∧ v' = .pointer none) ∨
    (n ≤ 32 ∧ ∃ d : List Sp, d.Perm a ∧ ∃ g A c g' A' c', v = .pointer (some ⟨g, 0, none⟩) ∧ Row w' g #[.slice A n c] ∧ Kd.C k33 w' A n d ∧ v' = .pointer (some ⟨g', 0, none⟩) ∧ Row u' g' #[.slice A' n c'] ∧ Kd.C k33 u' A' n d)) := by
  rcases h with ⟨hb, rfl, rfl⟩ | ⟨hb, d1, hp1, hs1, h⟩
  · rcases h' with ⟨-, rfl, rfl⟩ | ⟨hb', -⟩
    · exact ⟨rfl, .inl ⟨rfl, rfl⟩⟩
    · exact absurd ((newBad_perm hp).2 hb) hb'
  · rcases h' with ⟨hb', -⟩ | ⟨-, d2, hp2, hs2, h'⟩
    · exact absurd ((newBad_perm hp).1 hb') hb
    obtain ⟨hi, he⟩ := one_bus (new_rgt hb) hp1 (hp2.trans hp) hs1 hs2
    rcases h with ⟨hn, rfl, rfl⟩ | ⟨hn, rfl, g, A, c, rfl, -, hrow, -, hC, -⟩
    · rcases h' with ⟨-, rfl, rfl⟩ | ⟨hn', -⟩
      · exact ⟨rfl, .inl ⟨rfl, rfl⟩⟩
      · exact absurd (hi.2 hn') hn
    · rcases h' with ⟨hn', -⟩ | ⟨-, rfl, g', A', c', rfl, -, hrow', -, hC', -⟩
      · exact absurd (hi.1 hn) hn'
      · have hl := Kd.C_len hC
        have h32 := new_32 hb
        rw [← he hn] at hC'
        exact ⟨rfl, .inr ⟨by rw [← hp1.length_eq] at h32; omega, d1, hp1, g, A, c, g', A', c', rfl, hrow, hC, rfl, hrow', hC'⟩⟩
theorem foldS (x : Sp) : Array.foldl (fun cs x => cs.setIfInBounds x.snd x.fst) #[Value.int .i64 0, .int .i64 0, .int .i64 0, .int .i64 0] (ES x).zipIdx 0 4 = ES x := rfl
attribute [local go_sem] foldS
set_option maxRecDepth 100000 in
set_option maxHeartbeats 4000000 in
theorem any_law (A : Option Addr) (n c : Nat) (d : List Sp) (t : Nat) (w : World) (hr : Kd.C k33 w A n d) (hbig : n ≤ 4398046511100) (ht : t ≤ 255) :
    Calls Try.prog 5 #[.slice A n c, .int .u8 (t : Int)] w fun en w' => en = .returned (.bool true) ∧ Below w.heap.size w w' := by
  have hn : d.length = n := Kd.C_len hr
  go_enter Try.func5, Try.ntmps5
  go_wp2_with fail
  refine (awake_c w).mono ?_
  rintro en W1 ⟨rfl, hB1⟩
  have HC0 := Lib.hid hr
  clear hr
  go_wp2
  have hR0 : Kd.R k33 33 W1 w.heap.size (fun _ => True) (.slice none 0 0) ((rot d t).take 0) := Kd.R_nil _ _ _ _ _
  have HN := Lib.hid hn
  have HRL := Lib.hid (rot_len d t)
  clear hn
  go_loopw [6, 7] (fun p q wr => ∃ k : Nat, k ≤ n ∧ q = .int .i64 k ∧ Kd.R k33 33 wr w.heap.size (fun _ => True) p ((rot d t).take k) ∧ Below w.heap.size w wr) (fun _ q _ => n - (intOf q).toNat)
  case atStart => exact ⟨0, by omega, rfl, hR0, hB1⟩
  case round =>
    obtain ⟨k, hk, rfl, hR, hB⟩ := hrel
    clear hR0 hB1
    have hC := Kd.C_below HC0.out hB
    by_cases hlt : k < n
    · have c1 : (k : Int) < n := by omega
      have w1 : IntKind.i64.wrap (t : Int) = t := IntWalk.i64_in _ (by omega)
      have w2 : IntKind.i64.wrap ((k : Int) + t) = (k : Int) + t := IntWalk.i64_in _ (by omega)
      have w3 : IntKind.i64.wrap ((k : Int) + 1) = (k : Int) + 1 := IntWalk.i64_in _ (by omega)
      have hm : (k + t) % n < n := Nat.mod_lt _ (by omega)
      have HS := Lib.hid (take_next (d := rot d t) (k := k) (by have := HRL.out; have := HN.out; omega))
      have HT := Lib.hid (rd_rot (d := d) (t := t) (k := k) (by have := HN.out; omega))
      have hq : Int.tmod ((k : Int) + t) n = ((k + t) % n : Nat) := by rw [Int.tmod_eq_emod_of_nonneg (by omega)]; rfl
      rw [HN.out] at HT
      generalize (k + t) % n = m at *
      have k0 : (0 : Int) ≤ m := by omega
      have k1 : (m : Int) < n := by omega
      have k2 : ¬ (n : Int) = 0 := by omega
      have k3 : ((n : Int) == 0) = false := by simp; omega
      have w4 : IntKind.i64.wrap (m : Int) = m := IntWalk.i64_in _ (by omega)
      obtain ⟨ad, er, hx0, hx1, hx2, hx3⟩ := at_T33 hC (m : Int) k0 k1
      cases er
      rw [Int.toNat_natCast] at hx0 hx1 hx2 hx3
      have HRr := Lib.hid hR
      have HBr := Lib.hid hB
      clear hR hC hB hlt hk
      go_wp2_with ((with_reducible refine gate_builtin (b := .append) (xs := #[.tmp 21, .tmp 32]) rfl ?_); at_builtin; refine Kd.R_append k33 (w0 := w) w.heap.size rfl (.tmp 21) (.tmp 32) 22 33 (.agg (ES z33)) 32 rfl Try.underlying22 info33 rfl (by decide) (by omega) _ ((rot d t).take k) (rd_T33 d m) (EL' (rd_T33 d m)) (fun _ => True) (fun _ => False) rfl rfl (k33_mkM _ _ _ (rd_T33 d m)) (fun _ hk => hk.elim) (fun _ _ => trivial) ?aO ?aB ?aS ?aL ?_; (case aO => exact HRr.out); (case aB => exact HBr.out); (case aS => exact HBr.out.size); (case aL => have := HRL.out; have := HN.out; rw [List.length_take]; omega); intro v1 wv ho hb hg hat)
      go_roundw
      case rel =>
        refine ⟨k + 1, by omega, congrArg (Value.int .i64) (by omega), ?_, hb⟩
        rw [HS.out, HT.out]
        exact ho
      case measure => simp [intOf]; omega
    · obtain rfl : n = k := by omega
      rw [List.take_of_length_le (by have := HRL.out; have := HN.out; omega)] at hR
      obtain ⟨A5, c5, rfl, hc5, hC5⟩ := Kd.R_reads hR
      rw [HRL.out, HN.out] at hC5 hc5 ⊢
      have HP := Lib.hid (rot_perm d t)
      clear hR
      generalize rot d t = d2 at *
      go_wp2_with fail
      refine (New_c A n c d wr hC).mono ?_
      rintro en W2 ⟨v, r, rfl, hb2, ho⟩
      have hB2 : Below w.heap.size w W2 := bk hB hB.size hb2
      have hC6 := Kd.C_below hC5 hb2
      clear hC hC5 hB hb2
      go_wp2_with fail
      refine (New_c A5 n c5 d2 W2 hC6).mono ?_
      rintro en W3 ⟨v', r', rfl, hb3, ho'⟩
      have hB3 : Below w.heap.size w W3 := bk hB2 hB2.size hb3
      clear hC6 hB2
      obtain ⟨rfl, ⟨rfl, rfl⟩ | ⟨h32, d', -, g, A2, c2, g', A3, c3, rfl, hrow, hC2, rfl, hrow', hC3⟩⟩ := any_new HP.out ho ho'
      · clear ho ho'
        go_wp2
        go_ret
        exact ⟨rfl, hB3⟩
      · clear ho ho'
        have lg := hrow.lt
        have hrow2 := hrow.below hb3 lg
        have hC2' := Kd.C_below hC2 hb3
        have l3 := hB3.size
        have lg' := hrow'.lt
        have hl' : d'.length = n := Kd.C_len hC3
        have HA := Lib.hid (all_c A2 n c2 d' g W3 hrow2 hC2' (by omega))
        rw [hl'] at HA
        obtain ⟨k1, hk1⟩ := sameS_refl (l := d') (by omega)
        have HL := Lib.hid hl'
        clear hrow hC2 hb3 hrow2 hC2' hl' lg
        go_wp2_with fail
        refine HA.out.mono ?_
        rintro en W4 ⟨A7, c7, rfl, hc7, hC7, hb4⟩
        have hB4 : Below w.heap.size w W4 := bk hB3 l3 hb4
        have hrow4 := hrow'.below hb4 lg'
        have hC4 := Kd.C_below hC3 hb4
        have HA2 := Lib.hid (all_c A3 n c3 d' g' W4 hrow4 hC4 (by omega))
        rw [HL.out] at HA2
        clear HA hrow' hC3 hB3 hb4 l3 lg' hrow4 hC4
        go_wp2_with fail
        refine HA2.out.mono ?_
        rintro en W5 ⟨A8, c8, rfl, hc8, hC8, hb5⟩
        have hB5 : Below w.heap.size w W5 := bk hB4 hB4.size hb5
        have hC9 := Kd.C_below hC7 hb5
        clear HA2 hC7 hB4 hb5
        have HS := Lib.hid (crierlaw05_same.calls k1 A7 c7 d' A8 c8 d' true W5 (by rw [HL.out]; exact hC9) (by rw [HL.out]; exact hc7) (by rw [HL.out]; exact hC8) (by rw [HL.out]; exact hc8) hk1)
        rw [HL.out] at HS
        clear hC9 hC8
        go_wp2_with fail
        refine HS.out.mono ?_
        rintro en W6 ⟨rfl, hb6⟩
        have hB6 : Below w.heap.size w W6 := bk hB5 hB5.size hb6.below
        clear HS hB5 hb6
        go_wp2
        go_ret
        exact ⟨rfl, hB6⟩
end Go.Proofs.Ytjkbocejdjnfiaa.Bs

namespace Go.Proofs.Ytjkbocejdjnfiaa.Bs
open Go.RowKit Go.Shelf Go.Proofs.Ytjkbocejdjnfiaa.IAll Go.Proofs.YtjkbocejdjnfiaaW.PrintWords Go.Proofs.YtjkbocejdjnfiaaW.PrintLast Go.Proofs.YtjkbocejdjnfiaaW.PrintMore
attribute [local go_sem] Oper.semAt_some cell_row frozen_row isRow_setCell_eq rowAt_setCell_same rowAt_setCell_other isRow_alloc_eq rowAt_alloc rowAt_new rowAt_new' isRow_setRow_eq rowAt_setRow_same rowAt_setRow_other isRow_drew rowAt_drew size_setRow_ size_drew_ blk_ptr aggOf_agg below_alloc_e below_setCell_e below_setRow_e below_refl_e below_drew_r isRow_drewN rowAt_drewN below_drewN_e le_add_r asideP_alloc_e asideP_setCell_e asideP_setRow_e asideP_drew_e asideP_drewN_e asideP_refl_e cell_setRow_far cell_setCell_far cell_drew_ heap_setCell_far heap_setRow_far heap_drew_ ES_size ES_one ES_fold ES_0 ES_1 allOne_nil allOne_cons Value.oneCell'
attribute [local go_sem ↓] loadS storeS loadSg storeSg
/-- both buses, of what is handed in; where the bus lies -/
theorem pair_new2 {w w' : World} {d : List Sp} {v : Value} {r : Int} (h : NewOut w w' d.length d v r) :
    ((r == 0) = false ∧ (r != 0) = true ∧ v = .pointer none ∧ ∃ r1, Ev (fun k => crierref05_New.f k d) (r1, r)) ∨
    (r = 0 ∧ ∃ d' : List Sp, NoOvl d' ∧ d'.length ≤ 32 ∧ (∀ y ∈ d', Rgt y) ∧ d'.length = d.length ∧ Ev (fun k => crierref05_New.f k d) (d', 0) ∧
      ∃ g A' c', v = .pointer (some ⟨g, 0, none⟩) ∧ Row w' g #[.slice A' d'.length c'] ∧ Kd.C k33 w' A' d'.length d' ∧ w.heap.size ≤ g ∧ (0 < d.length → ∃ ob, A' = some ⟨ob, 0, none⟩ ∧ w.heap.size ≤ ob ∧ ¬ ob = g)) := by
  rcases h with ⟨hb, rfl, rfl⟩ | ⟨hb, d1, hp, hs, h⟩
  · rcases refNew d with ⟨-, h⟩ | ⟨h, -⟩
    · exact .inl ⟨rfl, rfl, rfl, _, h⟩
    · exact absurd hb h
  · have h32 := new_32 hb
    have hD := new_rgt hb
    rcases refNew d with ⟨h2, -⟩ | ⟨-, d2, hp2, hs2, h2⟩
    · exact absurd h2 hb
    obtain ⟨hi, he⟩ := one_bus hD hp hp2 hs hs2
    rcases h with ⟨hn, rfl, rfl⟩ | ⟨hn, rfl, g, A', c', rfl, hg, hrow, hc', hC, hO⟩
    · rcases h2 with ⟨-, h2⟩ | ⟨h2, -⟩
      · exact .inl ⟨rfl, rfl, rfl, _, h2⟩
      · exact absurd (hi.2 h2) hn
    · rcases h2 with ⟨h2, -⟩ | ⟨-, h2⟩
      · exact absurd (hi.1 hn) h2
      · rw [← he hn] at h2
        have hl := hp.length_eq
        rw [← hl] at hrow hc' hC
        exact .inr ⟨rfl, d1, hn, by omega, fun y hy => hD y (hp.mem_iff.1 hy), hl, h2, g, A', c', rfl, hrow, hC, hg, hO⟩
theorem rmay (k : Nat) (T a wd : Int) : crierref04_May.f (k + 1) T a wd = some (mayN T a wd) := by
  rw [← may_is]
  simp only [crierref04_May.f, mem_May.f, crierref04_May.j0, mem_May.j0]
/-- what is found, in six numbers -/
def six (p : Sp × Int × Int) : Int × Int × Int × Int × Int × Int := (p.1.f0, p.1.f1, p.1.f2, p.1.f3, p.2.1, p.2.2)
def fndL (d : List Sp) (addr wd : Int) : Sp × Int × Int := match d.find? (hit addr wd) with | some s => (s, addr - s.f0, 0) | none => (z33, 0, 42)
theorem find_l0 {d : List Sp} {addr wd : Int} (hd : d.length ≤ 64) (hD : ∀ s ∈ d, Rgt s) (hw : 1 ≤ wd) (h0 : 0 ≤ addr) (h1 : addr ≤ TOP - wd) : ∀ m i : Nat, d.length = i + m → Ev (fun k => crierref05_Find.l0 k d addr wd i) (six (fndL (d.drop i) addr wd))
  | 0, i, e => by
    rw [List.drop_eq_nil_of_le (by omega)]
    exact Ev.now (by rw [crierref05_Find.l0, if_neg (by omega)]; rfl)
  | m + 1, i, e => by
    obtain ⟨r0, r1, r2⟩ := hD _ (rd_mem (d := d) (k := i) (by omega))
    have ih := find_l0 hd hD hw h0 h1 m (i + 1) (by omega)
    unfold TOP at h1 r2
    have e1 : wrap64 (addr + wd) = addr + wd := IntWalk.wrap64_in _ (by omega)
    have e2 : wrap64 ((rd_T33 d i).f0 + (rd_T33 d i).f1) = (rd_T33 d i).f0 + (rd_T33 d i).f1 := IntWalk.wrap64_in _ (by omega)
    have e3 : wrap64 (addr - (rd_T33 d i).f0) = addr - (rd_T33 d i).f0 := IntWalk.wrap64_in _ (by omega)
    have hs : ∀ k, crierref05_Find.l0 (k + 1) d addr wd i = if addr ≥ (rd_T33 d i).f0 then (if addr + wd ≤ (rd_T33 d i).f0 + (rd_T33 d i).f1 then some (six (rd_T33 d i, addr - (rd_T33 d i).f0, 0)) else crierref05_Find.l0 k d addr wd ((i + 1 : Nat) : Int)) else crierref05_Find.l0 k d addr wd ((i + 1 : Nat) : Int) := by
      intro k
      rw [crierref05_Find.l0, if_pos (by omega), if_pos (by omega), e1, e2, e3, w64n (by omega)]
      rfl
    rw [rd_lt (d := d) (k := i) (by omega)]
    by_cases hh : hit addr wd (rd_T33 d i) = true
    · have hq : (rd_T33 d i).f0 ≤ addr ∧ addr - (rd_T33 d i).f0 ≤ (rd_T33 d i).f1 - wd := by simpa [hit] using hh
      unfold fndL
      rw [List.find?_cons_of_pos hh]
      exact Ev.now (by rw [hs, if_pos (by omega), if_pos (by omega)])
    · have hq : ¬ ((rd_T33 d i).f0 ≤ addr ∧ addr - (rd_T33 d i).f0 ≤ (rd_T33 d i).f1 - wd) := by simpa [hit] using hh
      unfold fndL at ih ⊢
      rw [List.find?_cons_of_neg hh]
      refine ih.step fun k => ?_
      rw [hs]
      split
      · split
        · omega
        · rfl
      · rfl
/-- the document's Find -/
theorem refFind {d : List Sp} (hd : d.length ≤ 64) (hD : ∀ s ∈ d, Rgt s) (addr wd : Int) : Ev (fun k => crierref05_Find.f k d addr wd) (six (fnd d addr wd)) := by
  have hf : ∀ k, crierref05_Find.f (k + 1) d addr wd = if mayN TOP addr wd = 0 then crierref05_Find.l0 (k + 1) d addr wd 0 else some (0, 0, 0, 0, 0, mayN TOP addr wd) := fun k => by
    rw [crierref05_Find.f, show (1099511627776 : Int) = TOP from rfl, rmay, Option.bind_some]
  by_cases hm : mayN TOP addr wd = 0
  · obtain ⟨h1, h2, h3⟩ := may_ok (by decide) hm
    obtain ⟨k, hk⟩ := find_l0 hd hD (by omega) h2 h3 d.length 0 (by omega)
    refine ⟨k + 1, ?_⟩
    show crierref05_Find.f (k + 1) d addr wd = _
    rw [hf, if_pos hm, fnd, if_pos hm]
    exact crierref05_Find.mono_l k d addr wd 0 _ hk
  · refine ⟨1, ?_⟩
    show crierref05_Find.f (0 + 1) d addr wd = _
    rw [hf, if_neg hm, fnd, if_neg hm]
    rfl
/-- the own copy of the spans may be lost -/
def PO (A : Option Addr) (n b : Nat) : Prop := 0 < n ∧ A = some ⟨b, 0, none⟩
def spl (cur : Array Value) (o : Nat) (cs : Array Value) : Array Value := (cur.toList.take o ++ cs.toList ++ cur.toList.drop (o + cs.size)).toArray
def offv : Value → Nat
  | .pointer (some a) => a.off
  | _ => 0
theorem offv_ptr {a : Addr} : offv (.pointer (some a)) = a.off := rfl
section
variable {w : World}
theorem run_store_mid_op {P : Program} {ty : TypeId} {n : Nat} (hn : (P.info? ty).map (·.size) = some n) {ρ : Operand → Value} {x y : Operand} {dst : Option Tmp} {t0 : TypeId} {pos : String} {af : Array Edge} {gd : Option (Nat × Bool)}
    (hx : ρ x = .pointer (some ⟨blk (ρ x), offv (ρ x), none⟩)) (hy : ρ y = .agg (aggOf (ρ y))) (h : isRow w (blk (ρ x))) (hs : offv (ρ x) + n ≤ (rowAt w (blk (ρ x))).size) (hc : (aggOf (ρ y)).size = n) (h1 : AllOne (aggOf (ρ y))) :
    (execOp ρ { dst := dst, op := .store ty x y, type := t0, pos := pos, after := af, guard := gd }).run P w = .ok .skip (w.setRow (blk (ρ x)) (spl (rowAt w (blk (ρ x))) (offv (ρ x)) (aggOf (ρ y)))) := by
  obtain ⟨t, ht⟩ := h.box
  generalize aggOf (ρ y) = cs at *
  have h2 := run_storeCells_at P (blk (ρ x)) (offv (ρ x)) t cs.toList 0 (rowAt w (blk (ρ x))) w ht (by simp; omega) (fun v hv => (Array.all_eq_true_iff_forall_mem.1 h1) v (by simpa using hv))
  have key : (Instr.storeAt ty (.pointer (some ⟨blk (ρ x), offv (ρ x), none⟩)) (.agg cs)).run P w = .ok () (w.setRow (blk (ρ x)) (spl (rowAt w (blk (ρ x))) (offv (ρ x)) cs)) := by
    cases hq : P.info? ty with
    | none => simp [hq] at hn
    | some i =>
      have hs' : cs.size = i.size := by simp [hq] at hn; omega
      simp only [Instr.storeAt, Instr.sureAddr, Sem.run_bind, Sem.run_pure, Result.andThen_ok]
      simp [storeVar, sizeOf, typeInfo, hq, Value.cells, hs', h2, spl]
  rw [← hx, ← hy] at key
  simp only [execOp, Sem.run_bind, key, Result.andThen_ok, Sem.run_pure]
end
section
variable {w : World} {ρ : Operand → Value} {x y : Operand} {dst : Option Tmp} {t0 : TypeId} {pos : String} {af : Array Edge} {gd : Option (Nat × Bool)}
theorem storeSm (hx : ρ x = .pointer (some ⟨blk (ρ x), offv (ρ x), none⟩)) (hy : ρ y = .agg (aggOf (ρ y))) (h : isRow w (blk (ρ x))) (hs : offv (ρ x) + 4 ≤ (rowAt w (blk (ρ x))).size) (hc : (aggOf (ρ y)).size = 4) (h1 : AllOne (aggOf (ρ y))) :
    (execOp ρ { dst := dst, op := .store 33 x y, type := t0, pos := pos, after := af, guard := gd }).run Try.prog w = .ok .skip (w.setRow (blk (ρ x)) (spl (rowAt w (blk (ρ x))) (offv (ρ x)) (aggOf (ρ y)))) := run_store_mid_op infoS hx hy h hs hc h1
theorem storeSmg (r : Option Nat) (hx : ρ x = .pointer (some ⟨blk (ρ x), offv (ρ x), none⟩)) (hy : ρ y = .agg (aggOf (ρ y))) (h : isRow w (blk (ρ x))) (hs : offv (ρ x) + 4 ≤ (rowAt w (blk (ρ x))).size) (hc : (aggOf (ρ y)).size = 4) (h1 : AllOne (aggOf (ρ y))) :
    (Oper.semAt r ρ { dst := dst, op := .store 33 x y, type := t0, pos := pos, after := af, guard := gd }).run Try.prog w = .ok .skip (w.setRow (blk (ρ x)) (spl (rowAt w (blk (ρ x))) (offv (ρ x)) (aggOf (ρ y)))) := by
  rw [semAt_any _ _ _ (by intro c; simp)]
  exact storeSm hx hy h hs hc h1
end
theorem spl_size {cur cs : Array Value} {o : Nat} (h : o + cs.size ≤ cur.size) : (spl cur o cs).size = cur.size := by
  unfold spl
  simp
  omega
attribute [local go_sem high] eqSS
attribute [local go_sem] ES_z addr_at offv_ptr
attribute [local go_sem ↓] storeSm storeSmg
set_option maxRecDepth 100000 in
set_option maxHeartbeats 4000000 in
theorem finds_law (A : Option Addr) (c : Nat) (d : List Sp) (addr wd : Int) (w : World) (hr : Kd.C k33 w A d.length d) (hc : d.length ≤ c) (hbig : d.length ≤ 4398046511100) :
    Calls Try.prog 3 #[.slice A d.length c, .int .i64 addr, .int .i64 wd] w fun en w' => en = .returned (.bool true) ∧ Below w.heap.size w w' := by
  go_enter Try.func3, Try.ntmps3
  go_wp2_with fail
  refine (awake_c w).mono ?_
  rintro en W1 ⟨rfl, hB1⟩
  have hC1 := Kd.C_below hr hB1
  clear hr
  have HC := Lib.hid hC1
  clear hC1
  go_wp2_with (at_builtin; refine stop_in ?_)
  refine stop_out ?_
  refine Kd.R_append_rows k33 (Rr := k33.K W1) (w0 := W1) W1.heap.size rfl _ _ 22 33 (.agg (ES z33)) 32 rfl Try.underlying22 infoL rfl (by decide) (by decide) _ ([] : List Sp) d A d.length c (fun _ => True) (fun _ => False) rfl rfl (Kd.R_nil _ _ _ _ _) HC.out (fun p cs hp => by rw [k33_open hp]; exact k33_mkM _ _ _ _) (fun _ h => h.elim) (fun _ _ => trivial) (Below.refl _ _) (Nat.le_refl _) (by simp; omega) ?_
  intro x_ w1 hR_ hb1 _ _
  rw [List.nil_append] at hR_
  obtain ⟨A1, c1, he, hc1, hC1⟩ := Kd.R_reads hR_
  obtain ⟨-, inner, hown, hreps⟩ := hR_
  obtain ⟨A2, c2, he2, hc2, hO⟩ := own_parts hown
  obtain ⟨rfl, rfl⟩ : A1 = A2 ∧ c1 = c2 := by rw [he] at he2; injection he2 with a1 a2 a3; exact ⟨a1, a3⟩
  subst he
  have hB2 : Below w.heap.size w w1 := bk hB1 hB1.size hb1
  have hC2 := Kd.C_below HC.out hb1
  have l1 := hB1.size
  have hO' : ∀ b, PO A1 d.length b → w.heap.size ≤ b ∧ b < w1.heap.size := by
    rintro b ⟨h0, e⟩
    obtain ⟨ob, e2, h1, h2⟩ := hO h0
    rw [e] at e2
    cases e2
    exact ⟨by omega, h2.lt⟩
  clear hreps hown he2 hB1 hb1 HC
  go_wp2_with fail
  refine (New_c A1 d.length c1 d w1 hC1).mono ?_
  rintro en W2 ⟨v, r, rfl, hb2, ho⟩
  have hB3 : Below w.heap.size w W2 := bk hB2 hB2.size hb2
  have hC3 := Kd.C_below hC2 hb2
  have hC4 := Kd.C_below hC1 hb2
  have hO2 : 0 < d.length → ∃ ob, A1 = some ⟨ob, 0, none⟩ ∧ isRow W2 ob := fun h => by
    obtain ⟨ob, e, h1, h2⟩ := hO h
    obtain ⟨h3, -⟩ := Row.step h2 rfl hb2
    exact ⟨ob, e, h3⟩
  clear hC2 hC1 hB2 hO hb2
  obtain ⟨ks, hks⟩ := sameS_refl (l := d) (by omega)
  rcases pair_new2 ho with ⟨q0, q1, rfl, r1, k1, hk1⟩ | ⟨rfl, d', hno, h32, hD, hl, ⟨k1, hk1⟩, g, A', c', rfl, hrow, hC, hg, hOb⟩
  · clear ho
    go_wp2_with fail
    refine (crierref05_New.calls k1 A c d r1 r W2 hC3 hc hk1).mono ?_
    rintro en W3 ⟨v3, rfl, -, hb3⟩
    have hB4 : Below w.heap.size w W3 := bk hB3 hB3.size hb3
    have hC5 := Kd.C_below hC3 hb3
    have hC6 := Kd.C_below hC4 hb3
    clear hC3 hC4 hB3 hb3 hk1
    go_wp2_with fail
    refine (crierlaw05_same.calls ks A1 c1 d A c d true W3 hC6 hc2 hC5 hc hks).mono ?_
    rintro en W4 ⟨rfl, hb4⟩
    have hB5 : Below w.heap.size w W4 := bk hB4 hB4.size hb4.below
    clear hC5 hC6 hB4 hb4
    go_wp2
    go_ret
    exact ⟨rfl, hB5⟩
  · clear ho
    have lg := hrow.lt
    have HL := Lib.hid hl
    have h32' := h32
    have hOb' : 0 < d'.length → 0 < d.length := by omega
    clear hl
    go_wp2_with fail
    refine (crierref05_New.calls k1 A c d d' 0 W2 hC3 hc hk1).mono ?_
    rintro en W3 ⟨v3, rfl, hR3, hb3⟩
    obtain ⟨A3, c3, he, hc3, hC5⟩ := Kd.R_reads hR3
    obtain ⟨-, inner, hown, hreps⟩ := hR3
    obtain ⟨A4, c4, he2, hc4, hO3⟩ := own_parts hown
    obtain ⟨rfl, rfl⟩ : A3 = A4 ∧ c3 = c4 := by rw [he] at he2; injection he2 with a1 a2 a3; exact ⟨a1, a3⟩
    subst he
    have hb3s := hb3.size
    have hB4 : Below w.heap.size w W3 := bk hB3 hB3.size hb3
    have hC6 := Kd.C_below hC3 hb3
    have hC7 := Kd.C_below hC4 hb3
    have hC8 := Kd.C_below hC hb3
    have hrow3 := hrow.below hb3 lg
    have hO4 : 0 < d.length → ∃ ob, A1 = some ⟨ob, 0, none⟩ ∧ isRow W3 ob := fun h => by
      obtain ⟨ob, e, h2⟩ := hO2 h
      obtain ⟨h3, -⟩ := Row.step h2 rfl hb3
      exact ⟨ob, e, h3⟩
    have ls : w1.heap.size ≤ W2.heap.size := by
      have := hg; omega
    clear hC3 hC4 hC hB3 hb3 hk1 he2 hown hreps hO2 hrow lg
    go_wp2_with fail
    refine (crierlaw05_same.calls ks A1 c1 d A c d true W3 hC7 hc2 hC6 hc hks).mono ?_
    rintro en W4 ⟨rfl, hb4'⟩
    have hb4 := hb4'.below
    have hB5 : Below w.heap.size w W4 := bk hB4 hB4.size hb4
    have hC9 := Kd.C_below hC7 hb4
    have hC10 := Kd.C_below hC8 hb4
    have hC11 := Kd.C_below hC5 hb4
    have lg := hrow3.lt
    have hrow4 := hrow3.below hb4 lg
    have hO5 : 0 < d.length → ∃ ob, A1 = some ⟨ob, 0, none⟩ ∧ isRow W4 ob ∧ d.length * 4 ≤ (rowAt W4 ob).size := fun h => by
      obtain ⟨ob, e, h2⟩ := hO4 h
      obtain ⟨h3, -⟩ := Row.step h2 rfl hb4
      refine ⟨ob, e, h3, ?_⟩
      obtain ⟨ad, er, -, -, -, hx3⟩ := at_T33 hC9 ((d.length - 1 : Nat) : Int) (by omega) (by omega)
      rw [e] at er
      cases er
      rw [Int.toNat_natCast, addr_at] at hx3
      rw [show ({ block := ob, off := (d.length - 1) * 4 + 3, spot := none } : Addr) = ⟨ob, (d.length - 1) * 4 + 3, none⟩ from rfl, cell_row h3] at hx3
      have := (Array.getElem?_eq_some_iff.1 hx3).1
      omega
    have l4 := hB5.size
    have f1 : ¬ PO A1 d.length g := fun h => by have := (hO' g h).2; omega
    have lW3 := hb3s
    have lW4 : W2.heap.size ≤ W4.heap.size := Nat.le_trans lW3 hb4.size
    have f2 : ∀ ad, A' = some ad → 0 < d'.length → ad.block < W4.heap.size ∧ ¬ PO A1 d.length ad.block := by
      rintro ad rfl h0
      refine ⟨Kd.C_lt hC10 h0 (by decide), fun h => ?_⟩
      obtain ⟨ob, e, h1, -⟩ := hOb (hOb' h0)
      cases e
      have := (hO' _ h).2
      simp only at this
      omega
    have f3 : ∀ ad, A3 = some ad → 0 < d'.length → ad.block < W4.heap.size ∧ ¬ PO A1 d.length ad.block := by
      rintro ad rfl h0
      refine ⟨Kd.C_lt hC11 h0 (by decide), fun h => ?_⟩
      obtain ⟨ob, e, h1, -⟩ := hO3 h0
      cases e
      have := (hO' _ h).2
      simp only at this
      omega
    have hO'' : ∀ b, PO A1 d.length b → w.heap.size ≤ b := fun b h => (hO' b h).1
    have HK := Lib.hid hC10
    have HK3 := Lib.hid hC11
    clear hC5 hC6 hC7 hC8 hC9 hC10 hC11 hB4 hb4 hb4' hrow3 lg hO4 hOb hOb' hO3 hg ls hO' lW3 hb3s lW4
    go_wp2
    go_loopw [13] (fun q wr => ∃ k : Nat, k ≤ d.length ∧ q = .int .i64 k ∧ AsideP (PO A1 d.length) W4 wr ∧ (0 < d.length → ∃ ob, A1 = some ⟨ob, 0, none⟩ ∧ isRow wr ob ∧ d.length * 4 ≤ (rowAt wr ob).size)) (fun q _ => d.length - (intOf q).toNat)
    case atStart => exact ⟨0, by omega, rfl, AsideP.of_below (Below.refl _ _), hO5⟩
    case round =>
      obtain ⟨k, hk, rfl, hX, hrw⟩ := hrel
      clear hO5
      by_cases hlt : k < d.length
      · have k1 : (k : Int) < d.length := by omega
        have k0 : (0 : Int) ≤ k := by omega
        have w3 : IntKind.i64.wrap ((k : Int) + 1) = (k : Int) + 1 := IntWalk.i64_in _ (by omega)
        obtain ⟨ob, rfl, hr0, hsz⟩ := hrw (by omega)
        have hP : PO (some ⟨ob, 0, none⟩) d.length ob := ⟨by omega, rfl⟩
        have hsz' : k * 4 + 4 ≤ (rowAt wr ob).size := by omega
        go_wp2
        go_roundw
        case rel =>
          refine ⟨k + 1, by omega, congrArg (Value.int .i64) (by omega), by go_simp, fun _ => ⟨ob, rfl, by go_simp, ?_⟩⟩
          go_simp
          rw [spl_size (by rw [ES_size]; omega)]
          exact hsz
        case measure => simp [intOf]; omega
      · have hW5 : Below w.heap.size w wr := AsideP.below hX hB5 hO'' l4
        have hCb := kd_at HK.out hX f2
        have hCl := kd_at HK3.out hX f3
        have hrw5 := AsideP.row hX hrow4 f1
        have l5 := hW5.size
        have lg := hrw5.lt
        clear hX hrw hrow4 HK HK3 hB5 f1 f2 f3 hO'' l4
        obtain rfl : k = d.length := by omega
        clear hlt
        obtain ⟨kf, hkf⟩ := refFind (d := d') (by omega) hD addr wd
        unfold six at hkf
        have HF := Lib.hid (Find_c A' d'.length c' d' g addr wd wr hrw5 hCb hD)
        go_wp2_with fail
        refine HF.out.mono ?_
        rintro en W6 ⟨rfl, hb6⟩
        have hB6 : Below w.heap.size w W6 := bk hW5 l5 hb6
        have hCb6 := Kd.C_below hCb hb6
        have hCl6 := Kd.C_below hCl hb6
        have hrw6 := hrw5.below hb6 lg
        clear hCb hCl hrw5 hW5 hb6 l5 lg HF
        have l6 := hB6.size
        have lg := hrw6.lt
        generalize fnd d' addr wd = pf at *
        obtain ⟨s, off, er⟩ := pf
        dsimp only at hkf
        dsimp only
        have hz : Below W6.heap.size W6 ((W6.alloc (.cells (ES z33) 33)).setRow W6.heap.size (ES s)) := below_setRow ((Below.refl _ W6).alloc (Nat.le_refl _) _) (Nat.le_refl _) _
        have hCb7 := Kd.C_below hCb6 hz
        have hCl7 := Kd.C_below hCl6 hz
        have hrw7 := hrw6.below hz lg
        have hB7 : Below w.heap.size w ((W6.alloc (.cells (ES z33) 33)).setRow W6.heap.size (ES s)) := bk hB6 l6 hz
        go_wp2_with fail
        refine calls_named (fun W_ => (isRow W_ W6.heap.size ∧ rowAt W_ W6.heap.size = ES s) ∧ Row W_ g #[.slice A' d'.length c'] ∧ Kd.C k33 W_ A' d'.length d' ∧ Kd.C k33 W_ A3 d'.length d' ∧ Below w.heap.size w W_) (by refine ⟨⟨by go_simp, by go_simp⟩, hrw7, hCb7, hCl7, hB7⟩) ?_
        rintro W7 ⟨⟨x7, x7'⟩, hrw7', hCb7', hCl7', hB7'⟩
        clear hz hCb7 hCl7 hrw7 hB7 hCb6 hCl6 hrw6 hB6 l6 lg
        have lg := hrw7'.lt
        refine (crierref05_Find.calls kf A3 c3 d' addr wd s.f0 s.f1 s.f2 s.f3 off er W7 hCl7' hc3 hkf).mono ?_
        rintro en W8 ⟨rfl, hb8⟩
        obtain ⟨x8, x8'⟩ := Row.step x7 x7' hb8
        have hB8 : Below w.heap.size w W8 := bk hB7' hB7'.size hb8
        have hCb8 := Kd.C_below hCb7' hb8
        have hCl8 := Kd.C_below hCl7' hb8
        have hrw8 := hrw7'.below hb8 lg
        clear x7 x7' hrw7' hCb7' hCl7' hB7' hb8 lg hkf
        have l8 := hB8.size
        have lg := hrw8.lt
        have lx8 := x8.lt
        have n5 : ¬ W6.heap.size = W8.heap.size := by omega
        have n6 : ¬ W8.heap.size = W6.heap.size := by omega
        have hz : Below W8.heap.size W8 ((W8.alloc (.cells (ES z33) 33)).setRow W8.heap.size (ES s)) := below_setRow ((Below.refl _ W8).alloc (Nat.le_refl _) _) (Nat.le_refl _) _
        have hCb9 := Kd.C_below hCb8 hz
        have hCl9 := Kd.C_below hCl8 hz
        have hrw9 := hrw8.below hz lg
        have hB9 : Below w.heap.size w ((W8.alloc (.cells (ES z33) 33)).setRow W8.heap.size (ES s)) := bk hB8 l8 hz
        have hro := Lib.hid hrw8
        clear hrw8
        go_wp2_with fail
        refine calls_named (fun W_ => Row W_ g #[.slice A' d'.length c'] ∧ Kd.C k33 W_ A' d'.length d' ∧ Kd.C k33 W_ A3 d'.length d' ∧ Below w.heap.size w W_) ⟨hrw9, hCb9, hCl9, hB9⟩ ?_
        rintro W9 ⟨hrwa, hCba, hCla, hBa⟩
        clear hz hCb9 hCl9 hrw9 hB9 hCb8 hCl8 hro hB8 l8 lg x8 x8' n5 n6
        refine (all_c A' d'.length c' d' g W9 hrwa hCba (by omega)).mono ?_
        rintro en Wa ⟨Aa, ca, rfl, hca, hCa, hba⟩
        have hBb : Below w.heap.size w Wa := bk hBa hBa.size hba
        have hClb := Kd.C_below hCla hba
        clear hrwa hCba hCla hBa hba
        obtain ⟨kd, hkd⟩ := sameS_refl (l := d') (by omega)
        go_wp2_with fail
        refine (crierlaw05_same.calls kd Aa ca d' A3 c3 d' true Wa hCa hca hClb hc3 hkd).mono ?_
        rintro en Wb ⟨rfl, hbb⟩
        have hBc : Below w.heap.size w Wb := bk hBb hBb.size hbb.below
        clear hCa hClb hBb hbb
        go_wp2
        go_ret
        exact ⟨rfl, hBc⟩
end Go.Proofs.Ytjkbocejdjnfiaa.Bs
