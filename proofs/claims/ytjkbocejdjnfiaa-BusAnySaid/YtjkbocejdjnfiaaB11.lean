/- The law BusParts. -/
import Derived.Test.YtjkbocejdjnfiaaB9
import Derived.Test.YtjkbocejdjnfiaaB10
namespace Go.Proofs.Ytjkbocejdjnfiaa.Bs
open Go.RowKit Go.Shelf Go.Proofs.Ytjkbocejdjnfiaa.IAll Go.Proofs.YtjkbocejdjnfiaaW.PrintWords Go.Proofs.YtjkbocejdjnfiaaW.PrintLast Go.Proofs.YtjkbocejdjnfiaaW.PrintMore
attribute [local go_sem] Oper.semAt_some cell_row frozen_row isRow_setCell_eq rowAt_setCell_same rowAt_setCell_other isRow_alloc_eq rowAt_alloc rowAt_new rowAt_new' isRow_setRow_eq rowAt_setRow_same rowAt_setRow_other isRow_drew rowAt_drew size_setRow_ size_drew_ blk_ptr aggOf_agg below_alloc_e below_setCell_e below_setRow_e below_refl_e below_drew_r isRow_drewN rowAt_drewN below_drewN_e le_add_r asideP_alloc_e asideP_setCell_e asideP_setRow_e asideP_drew_e asideP_drewN_e asideP_refl_e cell_setRow_far cell_setCell_far cell_drew_ heap_setCell_far heap_setRow_far heap_drew_ ES_size ES_one ES_fold ES_0 ES_1 allOne_nil allOne_cons Value.oneCell'
attribute [local go_sem ↓] loadS storeS loadSg storeSg
def inR (addr : Int) (p : Int × Int) : Bool := decide (p.1 ≤ addr) && decide (addr - p.1 < p.2)
def inS (addr : Int) (s : Sp) : Bool := decide (s.f0 ≤ addr) && decide (addr - s.f0 < s.f1)
def pq (L : List (Int × Int)) (j : Nat) : Int × Int := L.getD j (0, 0)
theorem pq_mem {L : List (Int × Int)} {j : Nat} (h : j < L.length) : pq L j ∈ L := by
  rw [pq, List.getD_eq_getElem?_getD, List.getElem?_eq_getElem h]
  exact List.getElem_mem h
theorem pq_next {L : List (Int × Int)} {j : Nat} (h : j < L.length) : L.take (j + 1) = L.take j ++ [pq L j] := by
  rw [pq, List.getD_eq_getElem?_getD, List.getElem?_eq_getElem h, List.take_add_one, List.getElem?_eq_getElem h]
  rfl
theorem flI_at : ∀ (L : List (Int × Int)) (j : Nat), j < L.length → (flI L)[2 * j]? = some (pq L j).1 ∧ (flI L)[2 * j + 1]? = some (pq L j).2
  | [], j, h => by simp at h
  | x :: r, 0, _ => ⟨rfl, rfl⟩
  | x :: r, j + 1, h => by
    have ih := flI_at r j (by simpa using h)
    have e1 : pq (x :: r) (j + 1) = pq r j := by simp [pq, List.getD_eq_getElem?_getD]
    have e2 : flI (x :: r) = x.1 :: x.2 :: flI r := rfl
    rw [e1, e2, show 2 * (j + 1) = 2 * j + 1 + 1 by omega, List.getElem?_cons_succ, List.getElem?_cons_succ, List.getElem?_cons_succ, List.getElem?_cons_succ]
    exact ih
theorem int_at {w : World} {A : Option Addr} {n : Nat} {xs : List Int} (h : Kd.C (Kd.int .i64) w A n xs) {i : Nat} {v : Int} (hi : xs[i]? = some v) : ∃ ad, A = some ad ∧ w.cell? (ad.add i) = some (.int .i64 v) := by
  obtain ⟨hl, hm, hq⟩ := h
  have hi' := (List.getElem?_eq_some_iff.1 hi).1
  obtain ⟨ad, e, h2⟩ := hq (by omega)
  obtain ⟨c, hc, hK, hcell⟩ := h2 i v hi
  refine ⟨ad, e, ?_⟩
  have h3 : c = [.int .i64 v] := hK
  subst h3
  have := hcell 0 (.int .i64 v) rfl
  rwa [show i * (Kd.int .i64).sz + 0 = i by show i * 1 + 0 = i; omega] at this
theorem NoOvl.pre {l : List Sp} {x : Sp} (h : NoOvl (l ++ [x])) : NoOvl l := by
  intro k hk
  have := h k (by simp; omega)
  rwa [rd_left (by omega), rd_left (i := k + 1) (by omega)] at this
/-- an address that a range or a span holds, up to what was gone through -/
theorem parts_pre {addr e : Int} (h0 : 0 ≤ addr) (h1 : addr < e) : ∀ (m : Nat) (l : List Sp), l.length = m → (∀ s ∈ l, Rgt s) → NoOvl l → (frp e l).1.countP (inR addr) + l.countP (inS addr) = if addr < (frp e l).2 then 1 else 0
  | 0, l, hl, _, _ => by
    obtain rfl : l = [] := List.length_eq_zero_iff.1 hl
    have : ¬ addr < 0 := by omega
    simp [frp, this]
  | m + 1, l, hl, hD, hN => by
    rcases List.eq_nil_or_concat l with h | ⟨l', x, h⟩
    · subst h; cases hl
    · rw [List.concat_eq_append] at h
      subst h
      have hl' : l'.length = m := by simpa using hl
      have ih := parts_pre h0 h1 m l' hl' (fun s hs => hD s (by simp [hs])) hN.pre
      have hle : (frp e l').2 ≤ x.f0 := by
        rcases List.eq_nil_or_concat l' with h | ⟨l'', y, h⟩
        · subst h
          exact (hD x (by simp)).1
        · rw [List.concat_eq_append] at h
          subst h
          rw [frp_snoc]
          have := hN l''.length (by simp)
          rw [show l'' ++ [y] ++ [x] = l'' ++ y :: [x] by simp, rd_app] at this
          have h2 := rd_right (pre := l'') (post := [x]) (s := y) (i := 0)
          rw [show l''.length + 1 + 0 = l''.length + 1 by omega] at h2
          rw [h2] at this
          exact this
      obtain ⟨r0, r1, r2⟩ := hD x (by simp)
      rw [frp_snoc, stp, List.countP_append, List.countP_append, List.countP_singleton]
      generalize (frp e l').2 = at_ at *
      generalize (frp e l').1.countP (inR addr) = c1 at *
      generalize l'.countP (inS addr) = c2 at *
      by_cases a1 : at_ < x.f0 ∧ at_ < e
      · rw [if_pos a1, List.countP_singleton]
        by_cases b1 : addr < at_
        · have q1 : inR addr (at_, min e x.f0 - at_) = false := by simp [inR]; omega
          have q2 : inS addr x = false := by simp [inS]; omega
          rw [if_pos b1] at ih
          rw [q1, q2, if_pos (show addr < x.f0 + x.f1 by omega)]
          simp; omega
        · rw [if_neg b1] at ih
          by_cases b2 : addr < x.f0
          · have q1 : inR addr (at_, min e x.f0 - at_) = true := by simp [inR]; omega
            have q2 : inS addr x = false := by simp [inS]; omega
            rw [q1, q2, if_pos (show addr < x.f0 + x.f1 by omega)]
            simp; omega
          · have q1 : inR addr (at_, min e x.f0 - at_) = false := by simp [inR]; omega
            by_cases b3 : addr < x.f0 + x.f1
            · have q2 : inS addr x = true := by simp [inS]; omega
              rw [q1, q2, if_pos b3]
              simp; omega
            · have q2 : inS addr x = false := by simp [inS]; omega
              rw [q1, q2, if_neg b3]
              simp; omega
      · rw [if_neg a1, List.countP_nil]
        by_cases b1 : addr < at_
        · have q2 : inS addr x = false := by simp [inS]; omega
          rw [if_pos b1] at ih
          rw [q2, if_pos (show addr < x.f0 + x.f1 by omega)]
          simp; omega
        · rw [if_neg b1] at ih
          by_cases b3 : addr < x.f0 + x.f1
          · have q2 : inS addr x = true := by simp [inS]; omega
            rw [q2, if_pos b3]
            simp; omega
          · have q2 : inS addr x = false := by simp [inS]; omega
            rw [q2, if_neg b3]
            simp; omega
theorem parts_all {addr e : Int} (h0 : 0 ≤ addr) (h1 : addr < e) {d : List Sp} (hD : ∀ s ∈ d, Rgt s) (hN : NoOvl d) : (fr e d).countP (inR addr) + d.countP (inS addr) = 1 := by
  have h := parts_pre h0 h1 _ d rfl hD hN
  rw [fr, List.countP_append]
  by_cases b : (frp e d).2 < e
  · rw [if_pos b, List.countP_singleton]
    by_cases c : addr < (frp e d).2
    · have q : inR addr ((frp e d).2, e - (frp e d).2) = false := by simp [inR]; omega
      rw [q]; rw [if_pos c] at h; simp; omega
    · have q : inR addr ((frp e d).2, e - (frp e d).2) = true := by simp [inR]; omega
      rw [q]; rw [if_neg c] at h; simp; omega
  · rw [if_neg b, List.countP_nil]
    rw [if_pos (by omega)] at h
    omega
theorem wfi {n : Int} (h : (Lit.int .i64 n).wf = true) : -9223372036854775808 ≤ n ∧ n ≤ 9223372036854775807 := by simpa [Lit.wf, IntKind.min, IntKind.max, IntKind.signed, IntKind.bits] using h
attribute [local go_sem] ES_z bne_self_eq_false
set_option maxRecDepth 100000 in
set_option maxHeartbeats 4000000 in
theorem parts_law (A : Option Addr) (n c : Nat) (d : List Sp) (e addr : Int) (w : World) (hr : Kd.C k33 w A n d) (he : e ≤ 9223372036854775807) :
    Calls Try.prog 7 #[.slice A n c, .int .i64 e, .int .i64 addr] w fun en w' => en = .returned (.bool true) ∧ Below w.heap.size w w' := by
  have hn : d.length = n := Kd.C_len hr
  have hmx := Kd.C_max hr
  go_enter Try.func7, Try.ntmps7
  go_wp2_with fail
  refine (awake_c w).mono ?_
  rintro en W1 ⟨rfl, hB1⟩
  have hC1 := Kd.C_below hr hB1
  clear hr
  go_wp2_with fail
  refine (New_c A n c d W1 hC1).mono ?_
  rintro en W2 ⟨v, r, rfl, hb2, ho⟩
  have hB2 : Below w.heap.size w W2 := bk hB1 hB1.size hb2
  clear hC1 hB1 hb2
  have hnil : v = .pointer none ∨ (¬ newBad d ∧ ∃ d' : List Sp, d'.Perm d ∧ Srt d' ∧ NoOvl d' ∧ ∃ g A' c', v = .pointer (some ⟨g, 0, none⟩) ∧ Row W2 g #[.slice A' n c'] ∧ Kd.C k33 W2 A' n d') := by
    rcases ho with ⟨-, h, -⟩ | ⟨hb, d', hp, hs, ⟨-, h, -⟩ | ⟨hno, -, g, A', c', h, -, hrow, -, hC, -⟩⟩
    · exact .inl h
    · exact .inl h
    · exact .inr ⟨hb, d', hp, hs, hno, g, A', c', h, hrow, hC⟩
  clear ho
  rcases hnil with rfl | ⟨hb, d', hp, hs, hno, g, A', c', rfl, hrow, hC⟩
  · go_wp2
    go_ret
    exact ⟨rfl, hB2⟩
  by_cases k0 : addr < 0
  · have e1 := decide_eq_true k0
    go_wp2
    go_ret
    exact ⟨rfl, hB2⟩
  by_cases k1 : e ≤ addr
  · have e1 := decide_eq_false k0
    have e2 := decide_eq_true k1
    go_wp2
    go_ret
    exact ⟨rfl, hB2⟩
  have e1 := decide_eq_false k0
  have e2 := decide_eq_false k1
  have hD : ∀ y ∈ d, Rgt y := fun y hy => by
    refine (right_rgt ?_).1
    cases h : rightB y with
    | true => rfl
    | false => exact absurd (.inr ⟨y, hy, h⟩) hb
  have hD' : ∀ y ∈ d', Rgt y := fun y hy => hD y (hp.mem_iff.1 hy)
  have h32 : n ≤ 32 := by
    rcases Nat.lt_or_ge 32 d.length with h | h
    · exact absurd (.inl h) hb
    · omega
  have HP := Lib.hid (parts_all (by omega) (by omega) hD' hno (addr := addr) (e := e))
  have HBd := Lib.hid (fr_bd (e := e) hD')
  have HD := Lib.hid hD'
  have hn' : d'.length = n := Kd.C_len hC
  have HF := Lib.hid (free_k A' n c' d' g e W2 hrow hC hD' (by omega) he)
  have lg := hrow.lt
  have l2 := hB2.size
  clear hb hs hno hD hD' hp
  go_wp2_with fail
  refine HF.out.mono ?_
  rintro en W3 ⟨A7, c7, rfl, hc7, hL, hb3⟩
  have hC3 := Kd.C_below hC hb3
  have hR3 := hrow.below hb3 lg
  have hB3 : Below w.heap.size w W3 := bk hB2 l2 hb3
  clear hC hrow hB2 hb3 HF l2 lg hc7
  have hLl : (fr e d').length ≤ 33 := by have := fr_len e d'; omega
  generalize fr e d' = L at *
  have HFL := Lib.hid (flI_len L)
  go_wp2
  go_loopw [10, 12] (fun p q wr => ∃ k j : Nat, k = 2 * j ∧ j ≤ L.length ∧ p = .int .i64 ((L.take j).countP (inR addr)) ∧ q = .int .i64 k ∧ Kd.C k33 wr A' n d' ∧ Kd.C (Kd.int .i64) wr A7 (flI L).length (flI L) ∧ Row wr g #[.slice A' n c'] ∧ Below w.heap.size w wr) (fun _ q _ => (flI L).length - (intOf q).toNat)
  case atStart => exact ⟨0, 0, rfl, by omega, rfl, rfl, hC3, hL, hR3, hB3⟩
  case round =>
    obtain ⟨k, j, hkj, hj, rfl, rfl, hCr, hLr, hRr, hBr⟩ := hrel
    clear hC3 hB3 hL hR3
    have hfl := HFL.out
    have w0 : IntKind.i64.wrap ((k : Int) + 1) = (k : Int) + 1 := IntWalk.i64_in _ (by omega)
    have lgr := hRr.lt
    by_cases hlt : j < L.length
    · have c1 : ((k : Int) + 1 < (flI L).length) := by omega
      have c2 : ((k : Int) < (flI L).length) := by omega
      have c3 : (0 : Int) ≤ k := by omega
      have c4 : (0 : Int) ≤ (k : Int) + 1 := by omega
      have ht1 : ((k : Int) + 1).toNat = k + 1 := by omega
      have w2 : IntKind.i64.wrap ((k : Int) + 2) = (k : Int) + 2 := IntWalk.i64_in _ (by omega)
      obtain ⟨f1, f2⟩ := flI_at L j hlt
      rw [← hkj] at f1 f2
      obtain ⟨ad, er, hx0⟩ := int_at hLr f1
      cases er
      obtain ⟨ad', er, hx1⟩ := int_at hLr f2
      cases er
      replace hx1 : wr.cell? { block := ad.block, off := ad.off + (k + 1) } = some (.int .i64 (pq L j).2) := hx1
      clear f1 f2
      obtain ⟨z0, z1, z2⟩ := HBd.out _ (pq_mem hlt)
      have hcl : (L.take j).countP (inR addr) ≤ j := Nat.le_trans List.countP_le_length (by simp; omega)
      have w5 : IntKind.i64.wrap (((L.take j).countP (inR addr) : Int) + 1) = ((L.take j).countP (inR addr) : Int) + 1 := IntWalk.i64_in _ (by omega)
      have HS := Lib.hid (pq_next hlt)
      have HK := Lib.hid hkj
      clear hkj hfl
      by_cases h1 : (pq L j).1 ≤ addr
      · have w6 : IntKind.i64.wrap (addr - (pq L j).1) = addr - (pq L j).1 := IntWalk.i64_in _ (by omega)
        by_cases h2 : addr - (pq L j).1 < (pq L j).2
        · skip
          have HO := Lib.hid (show inR addr (pq L j) = true by rw [inR]; simp; omega)
          have q1 := decide_eq_true h1
          have q2 := decide_eq_true h2
          clear h1 h2
          have HRr := Lib.hid hRr
          have hB_0 : Below wr.heap.size wr wr := Below.refl _ _
          go_wp2_with fail
          refine wp_named (fun W_ => W_.cell? (ad.add k) = some (.int .i64 (pq L j).1) ∧ W_.cell? { block := ad.block, off := ad.off + (k + 1) } = some (.int .i64 (pq L j).2) ∧ Below wr.heap.size wr W_) (by refine ⟨by first | assumption | (go_simp; done) | exact hx0, by first | assumption | (go_simp; done) | exact hx1, by go_simp⟩) ?_
          rintro v1 ⟨al0_1, al1_1, hB_1⟩
          clear hB_0 hx0 hx1
          have hz_1 : wr.heap.size ≤ v1.heap.size := hB_1.size
          refine wp_region_held_drew (S := fun w' => w'.cell? (ad.add k) = some (.int .i64 (pq L j).1) ∧ w'.cell? { block := ad.block, off := ad.off + (k + 1) } = some (.int .i64 (pq L j).2) ∧ Below wr.heap.size wr w') (by kernel_rfl) ⟨by first | exact al0_1 | (go_simp; done), by first | exact al1_1 | (go_simp; done), by go_simp⟩ (fun hHeld => ?_)
          refine wpAnyH_take (i := 0) (oi := ⟨some 49, .move (.tmp 2), 3, "law.go:180", #[], none⟩) (v := ?_) rfl (by kernel_rfl) (by kernel_rfl) (by kernel_rfl) (fun _ _ _ h => h) (Or.inl ⟨by rfl, ?_⟩) (by assumption) ?_
          rotate_left
          · (intro w_ hS_; (try dsimp only at hS_); go_simp; try with_reducible rfl)
          try simp only [Act.put, List.setIfInBounds_toArray, List.set_cons_zero, List.set_cons_succ]
          refine wpAnyH_take (i := 1) (oi := ⟨some 50, .move (.tmp 11), 43, "law.go:180", #[], none⟩) (v := ?_) rfl (by kernel_rfl) (by kernel_rfl) (by kernel_rfl) (fun _ _ _ h => h) (Or.inl ⟨by rfl, ?_⟩) (by assumption) ?_
          rotate_left
          · (intro w_ hS_; (try dsimp only at hS_); go_simp; try with_reducible rfl)
          try simp only [Act.put, List.setIfInBounds_toArray, List.set_cons_zero, List.set_cons_succ]
          refine wpAnyH_take (i := 2) (oi := ⟨some 51, .move (.tmp 12), 3, "law.go:180", #[], none⟩) (v := ?_) rfl (by kernel_rfl) (by kernel_rfl) (by kernel_rfl) (fun _ _ _ h => h) (Or.inl ⟨by rfl, ?_⟩) (by assumption) ?_
          rotate_left
          · (intro w_ hS_; (try dsimp only at hS_); go_simp; try with_reducible rfl)
          try simp only [Act.put, List.setIfInBounds_toArray, List.set_cons_zero, List.set_cons_succ]
          refine wpAnyH_take (i := 3) (oi := ⟨some 52, .indexAddr 43 (.tmp 50) (.tmp 51), 0, "law.go:180", #[⟨1, .data⟩, ⟨2, .data⟩], none⟩) (v := ?_) rfl (by kernel_rfl) (by kernel_rfl) (by kernel_rfl) (fun _ _ _ h => h) (Or.inl ⟨by rfl, ?_⟩) (by assumption) ?_
          rotate_left
          · (intro w_ hS_; (try dsimp only at hS_); go_simp; try with_reducible rfl)
          try simp only [Act.put, List.setIfInBounds_toArray, List.set_cons_zero, List.set_cons_succ]
          refine wpAnyH_take (i := 4) (oi := ⟨some 53, .load 3 (.tmp 52), 3, "law.go:180", #[⟨3, .data⟩], none⟩) (v := ?_) rfl (by kernel_rfl) (by kernel_rfl) (by kernel_rfl) (fun _ _ _ h => h) (Or.inl ⟨by rfl, ?_⟩) (by assumption) ?_
          rotate_left
          · (intro w_ hS_; (try dsimp only at hS_); go_simp; try with_reducible rfl)
          try simp only [Act.put, List.setIfInBounds_toArray, List.set_cons_zero, List.set_cons_succ]
          refine wpAnyH_take (i := 5) (oi := ⟨some 54, .binOp .geq 3 (.tmp 49) (.tmp 53) 3, 4, "law.go:180", #[⟨0, .data⟩, ⟨4, .data⟩], none⟩) (v := ?_) rfl (by kernel_rfl) (by kernel_rfl) (by kernel_rfl) (fun _ _ _ h => h) (Or.inl ⟨by rfl, ?_⟩) (by assumption) ?_
          rotate_left
          · (intro w_ hS_; (try dsimp only at hS_); go_simp; try with_reducible rfl)
          try simp only [Act.put, List.setIfInBounds_toArray, List.set_cons_zero, List.set_cons_succ]
          refine wpAnyH_take (i := 6) (oi := ⟨some 55, .move (.tmp 54), 4, "law.go:180", #[⟨5, .data⟩], none⟩) (v := ?_) rfl (by kernel_rfl) (by kernel_rfl) (by kernel_rfl) (fun _ _ _ h => h) (Or.inl ⟨by rfl, ?_⟩) (by assumption) ?_
          rotate_left
          · (intro w_ hS_; (try dsimp only at hS_); go_simp; try with_reducible rfl)
          try simp only [Act.put, List.setIfInBounds_toArray, List.set_cons_zero, List.set_cons_succ]
          refine wpAnyH_take (i := 7) (oi := ⟨some 56, .move (.tmp 2), 3, "law.go:180", #[⟨6, .guard⟩], some (6, true)⟩) (v := ?_) rfl (by kernel_rfl) (by kernel_rfl) (by kernel_rfl) (fun _ _ _ h => h) (Or.inl ⟨by rfl, ?_⟩) (by assumption) ?_
          rotate_left
          · (intro w_ hS_; (try dsimp only at hS_); go_simp; try with_reducible rfl)
          try simp only [Act.put, List.setIfInBounds_toArray, List.set_cons_zero, List.set_cons_succ]
          refine wpAnyH_take (i := 8) (oi := ⟨some 57, .move (.tmp 11), 43, "law.go:180", #[⟨6, .guard⟩], some (6, true)⟩) (v := ?_) rfl (by kernel_rfl) (by kernel_rfl) (by kernel_rfl) (fun _ _ _ h => h) (Or.inl ⟨by rfl, ?_⟩) (by assumption) ?_
          rotate_left
          · (intro w_ hS_; (try dsimp only at hS_); go_simp; try with_reducible rfl)
          try simp only [Act.put, List.setIfInBounds_toArray, List.set_cons_zero, List.set_cons_succ]
          refine wpAnyH_take (i := 9) (oi := ⟨some 58, .move (.tmp 12), 3, "law.go:180", #[⟨6, .guard⟩], some (6, true)⟩) (v := ?_) rfl (by kernel_rfl) (by kernel_rfl) (by kernel_rfl) (fun _ _ _ h => h) (Or.inl ⟨by rfl, ?_⟩) (by assumption) ?_
          rotate_left
          · (intro w_ hS_; (try dsimp only at hS_); go_simp; try with_reducible rfl)
          try simp only [Act.put, List.setIfInBounds_toArray, List.set_cons_zero, List.set_cons_succ]
          refine wpAnyH_take (i := 10) (oi := ⟨some 59, .indexAddr 43 (.tmp 57) (.tmp 58), 0, "law.go:180", #[⟨8, .data⟩, ⟨9, .data⟩, ⟨6, .guard⟩], some (6, true)⟩) (v := ?_) rfl (by kernel_rfl) (by kernel_rfl) (by kernel_rfl) (fun _ _ _ h => h) (Or.inl ⟨by rfl, ?_⟩) (by assumption) ?_
          rotate_left
          · (intro w_ hS_; (try dsimp only at hS_); go_simp; try with_reducible rfl)
          try simp only [Act.put, List.setIfInBounds_toArray, List.set_cons_zero, List.set_cons_succ]
          refine wpAnyH_take (i := 11) (oi := ⟨some 60, .load 3 (.tmp 59), 3, "law.go:180", #[⟨10, .data⟩, ⟨6, .guard⟩], some (6, true)⟩) (v := ?_) rfl (by kernel_rfl) (by kernel_rfl) (by kernel_rfl) (fun _ _ _ h => h) (Or.inl ⟨by rfl, ?_⟩) (by assumption) ?_
          rotate_left
          · (intro w_ hS_; (try dsimp only at hS_); go_simp; try with_reducible rfl)
          try simp only [Act.put, List.setIfInBounds_toArray, List.set_cons_zero, List.set_cons_succ]
          refine wpAnyH_take (i := 12) (oi := ⟨some 61, .binOp .sub 3 (.tmp 56) (.tmp 60) 3, 3, "law.go:180", #[⟨7, .data⟩, ⟨11, .data⟩, ⟨6, .guard⟩], some (6, true)⟩) (v := ?_) rfl (by kernel_rfl) (by kernel_rfl) (by kernel_rfl) (fun _ _ _ h => h) (Or.inl ⟨by rfl, ?_⟩) (by assumption) ?_
          rotate_left
          · (intro w_ hS_; (try dsimp only at hS_); go_simp; try with_reducible rfl)
          try simp only [Act.put, List.setIfInBounds_toArray, List.set_cons_zero, List.set_cons_succ]
          refine wpAnyH_take (i := 13) (oi := ⟨some 62, .move (.tmp 11), 43, "law.go:180", #[⟨6, .guard⟩], some (6, true)⟩) (v := ?_) rfl (by kernel_rfl) (by kernel_rfl) (by kernel_rfl) (fun _ _ _ h => h) (Or.inl ⟨by rfl, ?_⟩) (by assumption) ?_
          rotate_left
          · (intro w_ hS_; (try dsimp only at hS_); go_simp; try with_reducible rfl)
          try simp only [Act.put, List.setIfInBounds_toArray, List.set_cons_zero, List.set_cons_succ]
          refine wpAnyH_take (i := 14) (oi := ⟨some 63, .move (.tmp 12), 3, "law.go:180", #[⟨6, .guard⟩], some (6, true)⟩) (v := ?_) rfl (by kernel_rfl) (by kernel_rfl) (by kernel_rfl) (fun _ _ _ h => h) (Or.inl ⟨by rfl, ?_⟩) (by assumption) ?_
          rotate_left
          · (intro w_ hS_; (try dsimp only at hS_); go_simp; try with_reducible rfl)
          try simp only [Act.put, List.setIfInBounds_toArray, List.set_cons_zero, List.set_cons_succ]
          refine wpAnyH_take (i := 15) (oi := ⟨some 64, .binOp .add 3 (.tmp 63) (.const (.int .i64 1)) 3, 3, "law.go:180", #[⟨14, .data⟩, ⟨6, .guard⟩], some (6, true)⟩) (v := ?_) rfl (by kernel_rfl) (by kernel_rfl) (by kernel_rfl) (fun _ _ _ h => h) (Or.inl ⟨by rfl, ?_⟩) (by assumption) ?_
          rotate_left
          · (intro w_ hS_; (try dsimp only at hS_); go_simp; try with_reducible rfl)
          try simp only [Act.put, List.setIfInBounds_toArray, List.set_cons_zero, List.set_cons_succ]
          refine wpAnyH_take (i := 16) (oi := ⟨some 65, .indexAddr 43 (.tmp 62) (.tmp 64), 0, "law.go:180", #[⟨13, .data⟩, ⟨15, .data⟩, ⟨6, .guard⟩], some (6, true)⟩) (v := ?_) rfl (by kernel_rfl) (by kernel_rfl) (by kernel_rfl) (fun _ _ _ h => h) (Or.inl ⟨by rfl, ?_⟩) (by assumption) ?_
          rotate_left
          · (intro w_ hS_; (try dsimp only at hS_); go_simp; try with_reducible rfl)
          try simp only [Act.put, List.setIfInBounds_toArray, List.set_cons_zero, List.set_cons_succ]
          refine wpAnyH_take (i := 17) (oi := ⟨some 66, .load 3 (.tmp 65), 3, "law.go:180", #[⟨16, .data⟩, ⟨6, .guard⟩], some (6, true)⟩) (v := ?_) rfl (by kernel_rfl) (by kernel_rfl) (by kernel_rfl) (fun _ _ _ h => h) (Or.inl ⟨by rfl, ?_⟩) (by assumption) ?_
          rotate_left
          · (intro w_ hS_; (try dsimp only at hS_); go_simp; try with_reducible rfl)
          try simp only [Act.put, List.setIfInBounds_toArray, List.set_cons_zero, List.set_cons_succ]
          refine wpAnyH_take (i := 18) (oi := ⟨some 67, .binOp .lss 3 (.tmp 61) (.tmp 66) 3, 4, "law.go:180", #[⟨12, .data⟩, ⟨17, .data⟩, ⟨6, .guard⟩], some (6, true)⟩) (v := ?_) rfl (by kernel_rfl) (by kernel_rfl) (by kernel_rfl) (fun _ _ _ h => h) (Or.inl ⟨by rfl, ?_⟩) (by assumption) ?_
          rotate_left
          · (intro w_ hS_; (try dsimp only at hS_); go_simp; try with_reducible rfl)
          try simp only [Act.put, List.setIfInBounds_toArray, List.set_cons_zero, List.set_cons_succ]
          refine wpAnyH_take (i := 19) (oi := ⟨some 68, .pick (.tmp 55) (.tmp 67) (.const (.bool false)), 4, "law.go:180", #[⟨6, .data⟩, ⟨18, .data⟩], none⟩) (v := ?_) rfl (by kernel_rfl) (by kernel_rfl) (by kernel_rfl) (fun _ _ _ h => h) (Or.inl ⟨by rfl, ?_⟩) (by assumption) ?_
          rotate_left
          · (intro w_ hS_; (try dsimp only at hS_); go_simp; try with_reducible rfl)
          try simp only [Act.put, List.setIfInBounds_toArray, List.set_cons_zero, List.set_cons_succ]
          refine wpAnyH_done (by kernel_rfl) ?_ _
          (try dsimp only at hHeld)
          go_split_ands
          have hBv : Below wr.heap.size wr v1.drew := by assumption
          have hBv1 : Below w.heap.size w v1.drew := bk hBr hBr.size hBv
          have hC1v : Kd.C k33 v1.drew A' n d' := Kd.C_below hCr hBv
          have hC2v : Kd.C (Kd.int .i64) v1.drew (some ad) (flI L).length (flI L) := Kd.C_below hLr hBv
          have hRv := HRr.out.below hBv lgr
          go_wp2
          go_roundw
          case rel =>
            have hkj := HK.out
            refine ⟨k + 2, j + 1, by omega, by omega, ?_, congrArg (Value.int .i64) (by omega), hC1v, hC2v, hRv, hBv1⟩
            rw [HS.out, List.countP_append, List.countP_singleton, HO.out]
            exact congrArg (Value.int .i64) (by simp)
          case measure =>
            have hkj := HK.out
            have hfl := HFL.out
            simp [intOf]; omega

        · skip
          have HO := Lib.hid (show inR addr (pq L j) = false by rw [inR]; simp; omega)
          have q1 := decide_eq_true h1
          have q2 := decide_eq_false h2
          clear h1 h2
          have HRr := Lib.hid hRr
          have hB_0 : Below wr.heap.size wr wr := Below.refl _ _
          go_wp2_with fail
          refine wp_named (fun W_ => W_.cell? (ad.add k) = some (.int .i64 (pq L j).1) ∧ W_.cell? { block := ad.block, off := ad.off + (k + 1) } = some (.int .i64 (pq L j).2) ∧ Below wr.heap.size wr W_) (by refine ⟨by first | assumption | (go_simp; done) | exact hx0, by first | assumption | (go_simp; done) | exact hx1, by go_simp⟩) ?_
          rintro v1 ⟨al0_1, al1_1, hB_1⟩
          clear hB_0 hx0 hx1
          have hz_1 : wr.heap.size ≤ v1.heap.size := hB_1.size
          refine wp_region_held_drew (S := fun w' => w'.cell? (ad.add k) = some (.int .i64 (pq L j).1) ∧ w'.cell? { block := ad.block, off := ad.off + (k + 1) } = some (.int .i64 (pq L j).2) ∧ Below wr.heap.size wr w') (by kernel_rfl) ⟨by first | exact al0_1 | (go_simp; done), by first | exact al1_1 | (go_simp; done), by go_simp⟩ (fun hHeld => ?_)
          refine wpAnyH_take (i := 0) (oi := ⟨some 49, .move (.tmp 2), 3, "law.go:180", #[], none⟩) (v := ?_) rfl (by kernel_rfl) (by kernel_rfl) (by kernel_rfl) (fun _ _ _ h => h) (Or.inl ⟨by rfl, ?_⟩) (by assumption) ?_
          rotate_left
          · (intro w_ hS_; (try dsimp only at hS_); go_simp; try with_reducible rfl)
          try simp only [Act.put, List.setIfInBounds_toArray, List.set_cons_zero, List.set_cons_succ]
          refine wpAnyH_take (i := 1) (oi := ⟨some 50, .move (.tmp 11), 43, "law.go:180", #[], none⟩) (v := ?_) rfl (by kernel_rfl) (by kernel_rfl) (by kernel_rfl) (fun _ _ _ h => h) (Or.inl ⟨by rfl, ?_⟩) (by assumption) ?_
          rotate_left
          · (intro w_ hS_; (try dsimp only at hS_); go_simp; try with_reducible rfl)
          try simp only [Act.put, List.setIfInBounds_toArray, List.set_cons_zero, List.set_cons_succ]
          refine wpAnyH_take (i := 2) (oi := ⟨some 51, .move (.tmp 12), 3, "law.go:180", #[], none⟩) (v := ?_) rfl (by kernel_rfl) (by kernel_rfl) (by kernel_rfl) (fun _ _ _ h => h) (Or.inl ⟨by rfl, ?_⟩) (by assumption) ?_
          rotate_left
          · (intro w_ hS_; (try dsimp only at hS_); go_simp; try with_reducible rfl)
          try simp only [Act.put, List.setIfInBounds_toArray, List.set_cons_zero, List.set_cons_succ]
          refine wpAnyH_take (i := 3) (oi := ⟨some 52, .indexAddr 43 (.tmp 50) (.tmp 51), 0, "law.go:180", #[⟨1, .data⟩, ⟨2, .data⟩], none⟩) (v := ?_) rfl (by kernel_rfl) (by kernel_rfl) (by kernel_rfl) (fun _ _ _ h => h) (Or.inl ⟨by rfl, ?_⟩) (by assumption) ?_
          rotate_left
          · (intro w_ hS_; (try dsimp only at hS_); go_simp; try with_reducible rfl)
          try simp only [Act.put, List.setIfInBounds_toArray, List.set_cons_zero, List.set_cons_succ]
          refine wpAnyH_take (i := 4) (oi := ⟨some 53, .load 3 (.tmp 52), 3, "law.go:180", #[⟨3, .data⟩], none⟩) (v := ?_) rfl (by kernel_rfl) (by kernel_rfl) (by kernel_rfl) (fun _ _ _ h => h) (Or.inl ⟨by rfl, ?_⟩) (by assumption) ?_
          rotate_left
          · (intro w_ hS_; (try dsimp only at hS_); go_simp; try with_reducible rfl)
          try simp only [Act.put, List.setIfInBounds_toArray, List.set_cons_zero, List.set_cons_succ]
          refine wpAnyH_take (i := 5) (oi := ⟨some 54, .binOp .geq 3 (.tmp 49) (.tmp 53) 3, 4, "law.go:180", #[⟨0, .data⟩, ⟨4, .data⟩], none⟩) (v := ?_) rfl (by kernel_rfl) (by kernel_rfl) (by kernel_rfl) (fun _ _ _ h => h) (Or.inl ⟨by rfl, ?_⟩) (by assumption) ?_
          rotate_left
          · (intro w_ hS_; (try dsimp only at hS_); go_simp; try with_reducible rfl)
          try simp only [Act.put, List.setIfInBounds_toArray, List.set_cons_zero, List.set_cons_succ]
          refine wpAnyH_take (i := 6) (oi := ⟨some 55, .move (.tmp 54), 4, "law.go:180", #[⟨5, .data⟩], none⟩) (v := ?_) rfl (by kernel_rfl) (by kernel_rfl) (by kernel_rfl) (fun _ _ _ h => h) (Or.inl ⟨by rfl, ?_⟩) (by assumption) ?_
          rotate_left
          · (intro w_ hS_; (try dsimp only at hS_); go_simp; try with_reducible rfl)
          try simp only [Act.put, List.setIfInBounds_toArray, List.set_cons_zero, List.set_cons_succ]
          refine wpAnyH_take (i := 7) (oi := ⟨some 56, .move (.tmp 2), 3, "law.go:180", #[⟨6, .guard⟩], some (6, true)⟩) (v := ?_) rfl (by kernel_rfl) (by kernel_rfl) (by kernel_rfl) (fun _ _ _ h => h) (Or.inl ⟨by rfl, ?_⟩) (by assumption) ?_
          rotate_left
          · (intro w_ hS_; (try dsimp only at hS_); go_simp; try with_reducible rfl)
          try simp only [Act.put, List.setIfInBounds_toArray, List.set_cons_zero, List.set_cons_succ]
          refine wpAnyH_take (i := 8) (oi := ⟨some 57, .move (.tmp 11), 43, "law.go:180", #[⟨6, .guard⟩], some (6, true)⟩) (v := ?_) rfl (by kernel_rfl) (by kernel_rfl) (by kernel_rfl) (fun _ _ _ h => h) (Or.inl ⟨by rfl, ?_⟩) (by assumption) ?_
          rotate_left
          · (intro w_ hS_; (try dsimp only at hS_); go_simp; try with_reducible rfl)
          try simp only [Act.put, List.setIfInBounds_toArray, List.set_cons_zero, List.set_cons_succ]
          refine wpAnyH_take (i := 9) (oi := ⟨some 58, .move (.tmp 12), 3, "law.go:180", #[⟨6, .guard⟩], some (6, true)⟩) (v := ?_) rfl (by kernel_rfl) (by kernel_rfl) (by kernel_rfl) (fun _ _ _ h => h) (Or.inl ⟨by rfl, ?_⟩) (by assumption) ?_
          rotate_left
          · (intro w_ hS_; (try dsimp only at hS_); go_simp; try with_reducible rfl)
          try simp only [Act.put, List.setIfInBounds_toArray, List.set_cons_zero, List.set_cons_succ]
          refine wpAnyH_take (i := 10) (oi := ⟨some 59, .indexAddr 43 (.tmp 57) (.tmp 58), 0, "law.go:180", #[⟨8, .data⟩, ⟨9, .data⟩, ⟨6, .guard⟩], some (6, true)⟩) (v := ?_) rfl (by kernel_rfl) (by kernel_rfl) (by kernel_rfl) (fun _ _ _ h => h) (Or.inl ⟨by rfl, ?_⟩) (by assumption) ?_
          rotate_left
          · (intro w_ hS_; (try dsimp only at hS_); go_simp; try with_reducible rfl)
          try simp only [Act.put, List.setIfInBounds_toArray, List.set_cons_zero, List.set_cons_succ]
          refine wpAnyH_take (i := 11) (oi := ⟨some 60, .load 3 (.tmp 59), 3, "law.go:180", #[⟨10, .data⟩, ⟨6, .guard⟩], some (6, true)⟩) (v := ?_) rfl (by kernel_rfl) (by kernel_rfl) (by kernel_rfl) (fun _ _ _ h => h) (Or.inl ⟨by rfl, ?_⟩) (by assumption) ?_
          rotate_left
          · (intro w_ hS_; (try dsimp only at hS_); go_simp; try with_reducible rfl)
          try simp only [Act.put, List.setIfInBounds_toArray, List.set_cons_zero, List.set_cons_succ]
          refine wpAnyH_take (i := 12) (oi := ⟨some 61, .binOp .sub 3 (.tmp 56) (.tmp 60) 3, 3, "law.go:180", #[⟨7, .data⟩, ⟨11, .data⟩, ⟨6, .guard⟩], some (6, true)⟩) (v := ?_) rfl (by kernel_rfl) (by kernel_rfl) (by kernel_rfl) (fun _ _ _ h => h) (Or.inl ⟨by rfl, ?_⟩) (by assumption) ?_
          rotate_left
          · (intro w_ hS_; (try dsimp only at hS_); go_simp; try with_reducible rfl)
          try simp only [Act.put, List.setIfInBounds_toArray, List.set_cons_zero, List.set_cons_succ]
          refine wpAnyH_take (i := 13) (oi := ⟨some 62, .move (.tmp 11), 43, "law.go:180", #[⟨6, .guard⟩], some (6, true)⟩) (v := ?_) rfl (by kernel_rfl) (by kernel_rfl) (by kernel_rfl) (fun _ _ _ h => h) (Or.inl ⟨by rfl, ?_⟩) (by assumption) ?_
          rotate_left
          · (intro w_ hS_; (try dsimp only at hS_); go_simp; try with_reducible rfl)
          try simp only [Act.put, List.setIfInBounds_toArray, List.set_cons_zero, List.set_cons_succ]
          refine wpAnyH_take (i := 14) (oi := ⟨some 63, .move (.tmp 12), 3, "law.go:180", #[⟨6, .guard⟩], some (6, true)⟩) (v := ?_) rfl (by kernel_rfl) (by kernel_rfl) (by kernel_rfl) (fun _ _ _ h => h) (Or.inl ⟨by rfl, ?_⟩) (by assumption) ?_
          rotate_left
          · (intro w_ hS_; (try dsimp only at hS_); go_simp; try with_reducible rfl)
          try simp only [Act.put, List.setIfInBounds_toArray, List.set_cons_zero, List.set_cons_succ]
          refine wpAnyH_take (i := 15) (oi := ⟨some 64, .binOp .add 3 (.tmp 63) (.const (.int .i64 1)) 3, 3, "law.go:180", #[⟨14, .data⟩, ⟨6, .guard⟩], some (6, true)⟩) (v := ?_) rfl (by kernel_rfl) (by kernel_rfl) (by kernel_rfl) (fun _ _ _ h => h) (Or.inl ⟨by rfl, ?_⟩) (by assumption) ?_
          rotate_left
          · (intro w_ hS_; (try dsimp only at hS_); go_simp; try with_reducible rfl)
          try simp only [Act.put, List.setIfInBounds_toArray, List.set_cons_zero, List.set_cons_succ]
          refine wpAnyH_take (i := 16) (oi := ⟨some 65, .indexAddr 43 (.tmp 62) (.tmp 64), 0, "law.go:180", #[⟨13, .data⟩, ⟨15, .data⟩, ⟨6, .guard⟩], some (6, true)⟩) (v := ?_) rfl (by kernel_rfl) (by kernel_rfl) (by kernel_rfl) (fun _ _ _ h => h) (Or.inl ⟨by rfl, ?_⟩) (by assumption) ?_
          rotate_left
          · (intro w_ hS_; (try dsimp only at hS_); go_simp; try with_reducible rfl)
          try simp only [Act.put, List.setIfInBounds_toArray, List.set_cons_zero, List.set_cons_succ]
          refine wpAnyH_take (i := 17) (oi := ⟨some 66, .load 3 (.tmp 65), 3, "law.go:180", #[⟨16, .data⟩, ⟨6, .guard⟩], some (6, true)⟩) (v := ?_) rfl (by kernel_rfl) (by kernel_rfl) (by kernel_rfl) (fun _ _ _ h => h) (Or.inl ⟨by rfl, ?_⟩) (by assumption) ?_
          rotate_left
          · (intro w_ hS_; (try dsimp only at hS_); go_simp; try with_reducible rfl)
          try simp only [Act.put, List.setIfInBounds_toArray, List.set_cons_zero, List.set_cons_succ]
          refine wpAnyH_take (i := 18) (oi := ⟨some 67, .binOp .lss 3 (.tmp 61) (.tmp 66) 3, 4, "law.go:180", #[⟨12, .data⟩, ⟨17, .data⟩, ⟨6, .guard⟩], some (6, true)⟩) (v := ?_) rfl (by kernel_rfl) (by kernel_rfl) (by kernel_rfl) (fun _ _ _ h => h) (Or.inl ⟨by rfl, ?_⟩) (by assumption) ?_
          rotate_left
          · (intro w_ hS_; (try dsimp only at hS_); go_simp; try with_reducible rfl)
          try simp only [Act.put, List.setIfInBounds_toArray, List.set_cons_zero, List.set_cons_succ]
          refine wpAnyH_take (i := 19) (oi := ⟨some 68, .pick (.tmp 55) (.tmp 67) (.const (.bool false)), 4, "law.go:180", #[⟨6, .data⟩, ⟨18, .data⟩], none⟩) (v := ?_) rfl (by kernel_rfl) (by kernel_rfl) (by kernel_rfl) (fun _ _ _ h => h) (Or.inl ⟨by rfl, ?_⟩) (by assumption) ?_
          rotate_left
          · (intro w_ hS_; (try dsimp only at hS_); go_simp; try with_reducible rfl)
          try simp only [Act.put, List.setIfInBounds_toArray, List.set_cons_zero, List.set_cons_succ]
          refine wpAnyH_done (by kernel_rfl) ?_ _
          (try dsimp only at hHeld)
          go_split_ands
          have hBv : Below wr.heap.size wr v1.drew := by assumption
          have hBv1 : Below w.heap.size w v1.drew := bk hBr hBr.size hBv
          have hC1v : Kd.C k33 v1.drew A' n d' := Kd.C_below hCr hBv
          have hC2v : Kd.C (Kd.int .i64) v1.drew (some ad) (flI L).length (flI L) := Kd.C_below hLr hBv
          have hRv := HRr.out.below hBv lgr
          go_wp2
          go_roundw
          case rel =>
            have hkj := HK.out
            refine ⟨k + 2, j + 1, by omega, by omega, ?_, congrArg (Value.int .i64) (by omega), hC1v, hC2v, hRv, hBv1⟩
            rw [HS.out, List.countP_append, List.countP_singleton, HO.out]
            exact congrArg (Value.int .i64) (by simp)
          case measure =>
            have hkj := HK.out
            have hfl := HFL.out
            simp [intOf]; omega

      · skip
        have HO := Lib.hid (show inR addr (pq L j) = false by rw [inR]; simp; omega)
        have q1 := decide_eq_false h1
        clear h1
        have HRr := Lib.hid hRr
        have hB_0 : Below wr.heap.size wr wr := Below.refl _ _
        go_wp2_with fail
        refine wp_named (fun W_ => W_.cell? (ad.add k) = some (.int .i64 (pq L j).1) ∧ W_.cell? { block := ad.block, off := ad.off + (k + 1) } = some (.int .i64 (pq L j).2) ∧ Below wr.heap.size wr W_) (by refine ⟨by first | assumption | (go_simp; done) | exact hx0, by first | assumption | (go_simp; done) | exact hx1, by go_simp⟩) ?_
        rintro v1 ⟨al0_1, al1_1, hB_1⟩
        clear hB_0 hx0 hx1
        have hz_1 : wr.heap.size ≤ v1.heap.size := hB_1.size
        refine wp_region_held_drew (S := fun w' => w'.cell? (ad.add k) = some (.int .i64 (pq L j).1) ∧ w'.cell? { block := ad.block, off := ad.off + (k + 1) } = some (.int .i64 (pq L j).2) ∧ Below wr.heap.size wr w') (by kernel_rfl) ⟨by first | exact al0_1 | (go_simp; done), by first | exact al1_1 | (go_simp; done), by go_simp⟩ (fun hHeld => ?_)
        refine wpAnyH_take (i := 0) (oi := ⟨some 49, .move (.tmp 2), 3, "law.go:180", #[], none⟩) (v := ?_) rfl (by kernel_rfl) (by kernel_rfl) (by kernel_rfl) (fun _ _ _ h => h) (Or.inl ⟨by rfl, ?_⟩) (by assumption) ?_
        rotate_left
        · (intro w_ hS_; (try dsimp only at hS_); go_simp; try with_reducible rfl)
        try simp only [Act.put, List.setIfInBounds_toArray, List.set_cons_zero, List.set_cons_succ]
        refine wpAnyH_take (i := 1) (oi := ⟨some 50, .move (.tmp 11), 43, "law.go:180", #[], none⟩) (v := ?_) rfl (by kernel_rfl) (by kernel_rfl) (by kernel_rfl) (fun _ _ _ h => h) (Or.inl ⟨by rfl, ?_⟩) (by assumption) ?_
        rotate_left
        · (intro w_ hS_; (try dsimp only at hS_); go_simp; try with_reducible rfl)
        try simp only [Act.put, List.setIfInBounds_toArray, List.set_cons_zero, List.set_cons_succ]
        refine wpAnyH_take (i := 2) (oi := ⟨some 51, .move (.tmp 12), 3, "law.go:180", #[], none⟩) (v := ?_) rfl (by kernel_rfl) (by kernel_rfl) (by kernel_rfl) (fun _ _ _ h => h) (Or.inl ⟨by rfl, ?_⟩) (by assumption) ?_
        rotate_left
        · (intro w_ hS_; (try dsimp only at hS_); go_simp; try with_reducible rfl)
        try simp only [Act.put, List.setIfInBounds_toArray, List.set_cons_zero, List.set_cons_succ]
        refine wpAnyH_take (i := 3) (oi := ⟨some 52, .indexAddr 43 (.tmp 50) (.tmp 51), 0, "law.go:180", #[⟨1, .data⟩, ⟨2, .data⟩], none⟩) (v := ?_) rfl (by kernel_rfl) (by kernel_rfl) (by kernel_rfl) (fun _ _ _ h => h) (Or.inl ⟨by rfl, ?_⟩) (by assumption) ?_
        rotate_left
        · (intro w_ hS_; (try dsimp only at hS_); go_simp; try with_reducible rfl)
        try simp only [Act.put, List.setIfInBounds_toArray, List.set_cons_zero, List.set_cons_succ]
        refine wpAnyH_take (i := 4) (oi := ⟨some 53, .load 3 (.tmp 52), 3, "law.go:180", #[⟨3, .data⟩], none⟩) (v := ?_) rfl (by kernel_rfl) (by kernel_rfl) (by kernel_rfl) (fun _ _ _ h => h) (Or.inl ⟨by rfl, ?_⟩) (by assumption) ?_
        rotate_left
        · (intro w_ hS_; (try dsimp only at hS_); go_simp; try with_reducible rfl)
        try simp only [Act.put, List.setIfInBounds_toArray, List.set_cons_zero, List.set_cons_succ]
        refine wpAnyH_take (i := 5) (oi := ⟨some 54, .binOp .geq 3 (.tmp 49) (.tmp 53) 3, 4, "law.go:180", #[⟨0, .data⟩, ⟨4, .data⟩], none⟩) (v := ?_) rfl (by kernel_rfl) (by kernel_rfl) (by kernel_rfl) (fun _ _ _ h => h) (Or.inl ⟨by rfl, ?_⟩) (by assumption) ?_
        rotate_left
        · (intro w_ hS_; (try dsimp only at hS_); go_simp; try with_reducible rfl)
        try simp only [Act.put, List.setIfInBounds_toArray, List.set_cons_zero, List.set_cons_succ]
        refine wpAnyH_take (i := 6) (oi := ⟨some 55, .move (.tmp 54), 4, "law.go:180", #[⟨5, .data⟩], none⟩) (v := ?_) rfl (by kernel_rfl) (by kernel_rfl) (by kernel_rfl) (fun _ _ _ h => h) (Or.inl ⟨by rfl, ?_⟩) (by assumption) ?_
        rotate_left
        · (intro w_ hS_; (try dsimp only at hS_); go_simp; try with_reducible rfl)
        try simp only [Act.put, List.setIfInBounds_toArray, List.set_cons_zero, List.set_cons_succ]
        refine wpAnyH_take (i := 7) (oi := ⟨some 56, .move (.tmp 2), 3, "law.go:180", #[⟨6, .guard⟩], some (6, true)⟩) (v := undef) rfl (by kernel_rfl) (by kernel_rfl) (by kernel_rfl) (fun _ _ _ h => h) (Or.inr ⟨by rfl, rfl⟩) (by assumption) ?_
        try simp only [Act.put, List.setIfInBounds_toArray, List.set_cons_zero, List.set_cons_succ]
        refine wpAnyH_take (i := 8) (oi := ⟨some 57, .move (.tmp 11), 43, "law.go:180", #[⟨6, .guard⟩], some (6, true)⟩) (v := undef) rfl (by kernel_rfl) (by kernel_rfl) (by kernel_rfl) (fun _ _ _ h => h) (Or.inr ⟨by rfl, rfl⟩) (by assumption) ?_
        try simp only [Act.put, List.setIfInBounds_toArray, List.set_cons_zero, List.set_cons_succ]
        refine wpAnyH_take (i := 9) (oi := ⟨some 58, .move (.tmp 12), 3, "law.go:180", #[⟨6, .guard⟩], some (6, true)⟩) (v := undef) rfl (by kernel_rfl) (by kernel_rfl) (by kernel_rfl) (fun _ _ _ h => h) (Or.inr ⟨by rfl, rfl⟩) (by assumption) ?_
        try simp only [Act.put, List.setIfInBounds_toArray, List.set_cons_zero, List.set_cons_succ]
        refine wpAnyH_take (i := 10) (oi := ⟨some 59, .indexAddr 43 (.tmp 57) (.tmp 58), 0, "law.go:180", #[⟨8, .data⟩, ⟨9, .data⟩, ⟨6, .guard⟩], some (6, true)⟩) (v := undef) rfl (by kernel_rfl) (by kernel_rfl) (by kernel_rfl) (fun _ _ _ h => h) (Or.inr ⟨by rfl, rfl⟩) (by assumption) ?_
        try simp only [Act.put, List.setIfInBounds_toArray, List.set_cons_zero, List.set_cons_succ]
        refine wpAnyH_take (i := 11) (oi := ⟨some 60, .load 3 (.tmp 59), 3, "law.go:180", #[⟨10, .data⟩, ⟨6, .guard⟩], some (6, true)⟩) (v := undef) rfl (by kernel_rfl) (by kernel_rfl) (by kernel_rfl) (fun _ _ _ h => h) (Or.inr ⟨by rfl, rfl⟩) (by assumption) ?_
        try simp only [Act.put, List.setIfInBounds_toArray, List.set_cons_zero, List.set_cons_succ]
        refine wpAnyH_take (i := 12) (oi := ⟨some 61, .binOp .sub 3 (.tmp 56) (.tmp 60) 3, 3, "law.go:180", #[⟨7, .data⟩, ⟨11, .data⟩, ⟨6, .guard⟩], some (6, true)⟩) (v := undef) rfl (by kernel_rfl) (by kernel_rfl) (by kernel_rfl) (fun _ _ _ h => h) (Or.inr ⟨by rfl, rfl⟩) (by assumption) ?_
        try simp only [Act.put, List.setIfInBounds_toArray, List.set_cons_zero, List.set_cons_succ]
        refine wpAnyH_take (i := 13) (oi := ⟨some 62, .move (.tmp 11), 43, "law.go:180", #[⟨6, .guard⟩], some (6, true)⟩) (v := undef) rfl (by kernel_rfl) (by kernel_rfl) (by kernel_rfl) (fun _ _ _ h => h) (Or.inr ⟨by rfl, rfl⟩) (by assumption) ?_
        try simp only [Act.put, List.setIfInBounds_toArray, List.set_cons_zero, List.set_cons_succ]
        refine wpAnyH_take (i := 14) (oi := ⟨some 63, .move (.tmp 12), 3, "law.go:180", #[⟨6, .guard⟩], some (6, true)⟩) (v := undef) rfl (by kernel_rfl) (by kernel_rfl) (by kernel_rfl) (fun _ _ _ h => h) (Or.inr ⟨by rfl, rfl⟩) (by assumption) ?_
        try simp only [Act.put, List.setIfInBounds_toArray, List.set_cons_zero, List.set_cons_succ]
        refine wpAnyH_take (i := 15) (oi := ⟨some 64, .binOp .add 3 (.tmp 63) (.const (.int .i64 1)) 3, 3, "law.go:180", #[⟨14, .data⟩, ⟨6, .guard⟩], some (6, true)⟩) (v := undef) rfl (by kernel_rfl) (by kernel_rfl) (by kernel_rfl) (fun _ _ _ h => h) (Or.inr ⟨by rfl, rfl⟩) (by assumption) ?_
        try simp only [Act.put, List.setIfInBounds_toArray, List.set_cons_zero, List.set_cons_succ]
        refine wpAnyH_take (i := 16) (oi := ⟨some 65, .indexAddr 43 (.tmp 62) (.tmp 64), 0, "law.go:180", #[⟨13, .data⟩, ⟨15, .data⟩, ⟨6, .guard⟩], some (6, true)⟩) (v := undef) rfl (by kernel_rfl) (by kernel_rfl) (by kernel_rfl) (fun _ _ _ h => h) (Or.inr ⟨by rfl, rfl⟩) (by assumption) ?_
        try simp only [Act.put, List.setIfInBounds_toArray, List.set_cons_zero, List.set_cons_succ]
        refine wpAnyH_take (i := 17) (oi := ⟨some 66, .load 3 (.tmp 65), 3, "law.go:180", #[⟨16, .data⟩, ⟨6, .guard⟩], some (6, true)⟩) (v := undef) rfl (by kernel_rfl) (by kernel_rfl) (by kernel_rfl) (fun _ _ _ h => h) (Or.inr ⟨by rfl, rfl⟩) (by assumption) ?_
        try simp only [Act.put, List.setIfInBounds_toArray, List.set_cons_zero, List.set_cons_succ]
        refine wpAnyH_take (i := 18) (oi := ⟨some 67, .binOp .lss 3 (.tmp 61) (.tmp 66) 3, 4, "law.go:180", #[⟨12, .data⟩, ⟨17, .data⟩, ⟨6, .guard⟩], some (6, true)⟩) (v := undef) rfl (by kernel_rfl) (by kernel_rfl) (by kernel_rfl) (fun _ _ _ h => h) (Or.inr ⟨by rfl, rfl⟩) (by assumption) ?_
        try simp only [Act.put, List.setIfInBounds_toArray, List.set_cons_zero, List.set_cons_succ]
        refine wpAnyH_take (i := 19) (oi := ⟨some 68, .pick (.tmp 55) (.tmp 67) (.const (.bool false)), 4, "law.go:180", #[⟨6, .data⟩, ⟨18, .data⟩], none⟩) (v := ?_) rfl (by kernel_rfl) (by kernel_rfl) (by kernel_rfl) (fun _ _ _ h => h) (Or.inl ⟨by rfl, ?_⟩) (by assumption) ?_
        rotate_left
        · (intro w_ hS_; (try dsimp only at hS_); go_simp; try with_reducible rfl)
        try simp only [Act.put, List.setIfInBounds_toArray, List.set_cons_zero, List.set_cons_succ]
        refine wpAnyH_done (by kernel_rfl) ?_ _
        (try dsimp only at hHeld)
        go_split_ands
        have hBv : Below wr.heap.size wr v1.drew := by assumption
        have hBv1 : Below w.heap.size w v1.drew := bk hBr hBr.size hBv
        have hC1v : Kd.C k33 v1.drew A' n d' := Kd.C_below hCr hBv
        have hC2v : Kd.C (Kd.int .i64) v1.drew (some ad) (flI L).length (flI L) := Kd.C_below hLr hBv
        have hRv := HRr.out.below hBv lgr
        go_wp2
        go_roundw
        case rel =>
          have hkj := HK.out
          refine ⟨k + 2, j + 1, by omega, by omega, ?_, congrArg (Value.int .i64) (by omega), hC1v, hC2v, hRv, hBv1⟩
          rw [HS.out, List.countP_append, List.countP_singleton, HO.out]
          exact congrArg (Value.int .i64) (by simp)
        case measure =>
          have hkj := HK.out
          have hfl := HFL.out
          simp [intOf]; omega

    · obtain rfl : j = L.length := by omega
      rw [List.take_of_length_le (Nat.le_refl _)]
      have c1 : ¬ ((k : Int) + 1 < (flI L).length) := by omega
      have c1' := decide_eq_false c1
      have hcl : L.countP (inR addr) ≤ L.length := List.countP_le_length
      generalize hcR : L.countP (inR addr) = cR at *
      clear c1 hkj hfl
      go_wp2_with fail
      refine (all_c A' n c' d' g wr hRr hCr (by omega)).mono ?_
      rintro en W4 ⟨A8, c8, rfl, hc8, hC4, hb4⟩
      have hB4 : Below w.heap.size w W4 := bk hBr hBr.size hb4
      clear hCr hLr hRr hBr hb4 lgr
      rw [hn'] at hC4 hc8 ⊢
      go_wp2
      go_loopw [10, 74] (fun p q wr => ∃ i : Nat, i ≤ n ∧ p = .int .i64 ((cR + (d'.take i).countP (inS addr) : Nat) : Int) ∧ q = .int .i64 i ∧ Kd.C k33 wr A8 n d' ∧ Below w.heap.size w wr) (fun _ q _ => n - (intOf q).toNat)
      case atStart => exact ⟨0, by omega, by simp, rfl, hC4, hB4⟩
      case round =>
        obtain ⟨i, hi, rfl, rfl, hCr, hBr⟩ := hrel
        clear hC4 hB4
        by_cases hlt : i < n
        · have k1 : (i : Int) < n := by omega
          have k0 : (0 : Int) ≤ i := by omega
          obtain ⟨ad, er, hx0, hx1, hx2, hx3⟩ := at_T33 hCr (i : Int) k0 k1
          cases er
          rw [Int.toNat_natCast] at hx0 hx1 hx2 hx3
          obtain ⟨z0, z1, z2⟩ := HD.out _ (rd_mem (d := d') (k := i) (by omega))
          unfold TOP at z2
          have hcl2 : (d'.take i).countP (inS addr) ≤ i := Nat.le_trans List.countP_le_length (by simp; omega)
          have HS := Lib.hid (take_next (d := d') (k := i) (by omega))
          have hba : Below wr.heap.size wr ((wr.alloc (.cells (ES z33) 33)).setRow wr.heap.size (ES (rd_T33 d' i))) := below_setRow ((Below.refl _ wr).alloc (Nat.le_refl _) _) (Nat.le_refl _) _
          have HCv := Lib.hid (Kd.C_below hCr hba)
          have HBv := Lib.hid (bk hBr hBr.size hba)
          clear hba
          generalize hcv : cR + (d'.take i).countP (inS addr) = cv at *
          have w5 : IntKind.i64.wrap ((cv : Int) + 1) = (cv : Int) + 1 := IntWalk.i64_in _ (by omega)
          have w7 : IntKind.i64.wrap ((i : Int) + 1) = (i : Int) + 1 := IntWalk.i64_in _ (by omega)
          have w6 : IntKind.i64.wrap (addr - (rd_T33 d' i).f0) = addr - (rd_T33 d' i).f0 := IntWalk.i64_in _ (by omega)
          by_cases h1 : (rd_T33 d' i).f0 ≤ addr
          · by_cases h2 : addr - (rd_T33 d' i).f0 < (rd_T33 d' i).f1
            · have HO := Lib.hid (show inS addr (rd_T33 d' i) = true by rw [inS]; simp; omega)
              have q1 := decide_eq_true h1
              have q2 := decide_eq_true h2
              clear h1 h2 hCr hBr
              go_wp2
              go_roundw
              case rel =>
                refine ⟨i + 1, by omega, ?_, congrArg (Value.int .i64) (by omega), HCv.out, HBv.out⟩
                rw [HS.out, List.countP_append, List.countP_singleton, HO.out, if_pos rfl, ← Nat.add_assoc, hcv]
                exact congrArg (Value.int .i64) (by simp)
              case measure => simp [intOf]; omega
            · have HO := Lib.hid (show inS addr (rd_T33 d' i) = false by rw [inS]; simp; omega)
              have q1 := decide_eq_true h1
              have q2 := decide_eq_false h2
              clear h1 h2 hCr hBr
              go_wp2
              go_roundw
              case rel =>
                refine ⟨i + 1, by omega, ?_, congrArg (Value.int .i64) (by omega), HCv.out, HBv.out⟩
                rw [HS.out, List.countP_append, List.countP_singleton, HO.out, ← Nat.add_assoc, hcv]
                exact congrArg (Value.int .i64) (by simp)
              case measure => simp [intOf]; omega
          · have HO := Lib.hid (show inS addr (rd_T33 d' i) = false by rw [inS]; simp; omega)
            have q1 := decide_eq_false h1
            clear h1 hCr hBr
            go_wp2
            go_roundw
            case rel =>
              refine ⟨i + 1, by omega, ?_, congrArg (Value.int .i64) (by omega), HCv.out, HBv.out⟩
              rw [HS.out, List.countP_append, List.countP_singleton, HO.out, ← Nat.add_assoc, hcv]
              exact congrArg (Value.int .i64) (by simp)
            case measure => simp [intOf]; omega
        · obtain rfl : n = i := by omega
          rw [List.take_of_length_le (by omega)]
          have hc1 : cR + d'.countP (inS addr) = 1 := HP.out
          rw [hc1]
          have hnl : decide ((n : Int) < n) = false := decide_eq_false (by omega)
          go_wp2
          go_ret
          exact ⟨rfl, hBr⟩
end Go.Proofs.Ytjkbocejdjnfiaa.Bs
