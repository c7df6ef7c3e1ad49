/- The law BusRoom. -/
import Derived.Test.YtjkbocejdjnfiaaB16
namespace Go.Proofs.Ytjkbocejdjnfiaa.Bs
open Go.RowKit Go.Shelf Go.Proofs.Ytjkbocejdjnfiaa.IAll Go.Proofs.YtjkbocejdjnfiaaW.PrintWords Go.Proofs.YtjkbocejdjnfiaaW.PrintLast Go.Proofs.YtjkbocejdjnfiaaW.PrintMore
attribute [local go_sem] Oper.semAt_some cell_row frozen_row isRow_setCell_eq rowAt_setCell_same rowAt_setCell_other isRow_alloc_eq rowAt_alloc rowAt_new rowAt_new' isRow_setRow_eq rowAt_setRow_same rowAt_setRow_other isRow_drew rowAt_drew size_setRow_ size_drew_ blk_ptr aggOf_agg below_alloc_e below_setCell_e below_setRow_e below_refl_e below_drew_r isRow_drewN rowAt_drewN below_drewN_e le_add_r asideP_alloc_e asideP_setCell_e asideP_setRow_e asideP_drew_e asideP_drewN_e asideP_refl_e cell_setRow_far cell_setCell_far cell_drew_ heap_setCell_far heap_setRow_far heap_drew_ ES_size ES_one ES_fold ES_0 ES_1 allOne_nil allOne_cons Value.oneCell'
attribute [local go_sem ↓] loadS storeS loadSg storeSg
theorem right_true {s : Sp} (h0 : 0 ≤ s.f0) (h1 : 1 ≤ s.f1) (h2 : s.f0 + s.f1 ≤ TOP) (h3 : 1 ≤ s.f2) (h4 : s.f2 ≤ 4) (h5 : 0 ≤ s.f3) : rightB s = true := by
  unfold TOP at h2
  have hs := right_is s
  have e : wrap64 (1099511627776 - s.f1) = 1099511627776 - s.f1 := IntWalk.wrap64_in _ (by omega)
  unfold bus_right.f at hs
  rw [if_pos (by omega), if_pos (by omega), if_pos (by omega), e, if_pos (by omega), if_pos (by omega), if_pos (by omega), decide_eq_true (by omega)] at hs
  exact (Option.some.inj hs).symm
/-- what is free shares no address with a span -/
theorem fr_apart {e : Int} {d : List Sp} (hD : ∀ s ∈ d, Rgt s) (hN : NoOvl d) {p : Int × Int} (hp : p ∈ fr e d) {y : Sp} (hy : y ∈ d) : p.1 + p.2 ≤ y.f0 ∨ y.f0 + y.f1 ≤ p.1 := by
  obtain ⟨b0, b1, b2⟩ := fr_bd hD p hp
  obtain ⟨r0, r1, -⟩ := hD y hy
  by_cases h1 : p.1 + p.2 ≤ y.f0
  · exact .inl h1
  by_cases h2 : y.f0 + y.f1 ≤ p.1
  · exact .inr h2
  have hm : ∃ a, p.1 ≤ a ∧ a < p.1 + p.2 ∧ y.f0 ≤ a ∧ a < y.f0 + y.f1 := ⟨max p.1 y.f0, by omega, by omega, by omega, by omega⟩
  obtain ⟨a, m1, m2, m3, m4⟩ := hm
  have h := parts_all (addr := a) (e := e) (by omega) (by omega) hD hN
  have c1 : 0 < (fr e d).countP (inR a) := List.countP_pos_iff.2 ⟨p, hp, by simp [inR]; omega⟩
  have c2 : 0 < d.countP (inS a) := List.countP_pos_iff.2 ⟨y, hy, by simp [inS]; omega⟩
  omega
/-- where there is room -/
theorem plc_ok {d : List Sp} (hD : ∀ s ∈ d, Rgt s) (hN : NoOvl d) {sz st e at_ : Int} (h : plc d sz st e = (at_, 0)) :
    1 ≤ sz ∧ 1 ≤ st ∧ 0 ≤ at_ ∧ at_ + sz ≤ e ∧ e ≤ TOP ∧ st ≤ TOP ∧ at_ % st = 0 ∧ ∀ y ∈ d, at_ + sz ≤ y.f0 ∨ y.f0 + y.f1 ≤ at_ := by
  unfold plc at h
  split at h
  · exact absurd (congrArg Prod.snd h) (show (1 : Int) ≠ 0 by decide)
  · rename_i hb
    unfold argBad at hb
    split at h
    · rename_i p hf
      have hp := List.mem_of_find?_eq_some hf
      have hh : plcAt p.1 st - p.1 ≤ p.2 - sz := by simpa [hitP] using List.find?_some hf
      have e0 : plcAt p.1 st = at_ := congrArg Prod.fst h
      obtain ⟨b0, b1, b2⟩ := fr_bd hD p hp
      have hb1 := plcAt_bd (step := st) (a := p.1) b0 (by omega)
      have hle : p.1 ≤ at_ := by
        have := plcAt_is (a := p.1) (s := st) (by omega)
        have e3 : p.1 % st < st := Int.emod_lt_of_pos _ (by omega)
        rw [e0] at this
        split at this <;> omega
      have hmod : at_ % st = 0 := by
        rw [← e0]
        unfold plcAt
        exact Int.mul_emod_left _ _
      refine ⟨by omega, by omega, by omega, by omega, by omega, by omega, hmod, fun y hy => ?_⟩
      rcases fr_apart hD hN hp hy with h1 | h1 <;> omega
    · exact absurd (congrArg Prod.snd h) (show (2 : Int) ≠ 0 by decide)
theorem plc_bad {d : List Sp} {sz st e : Int} (h : ¬ (plc d sz st e).2 = 0) : (plc d sz st e).1 = 0 := by
  unfold plc at h ⊢
  split
  · rfl
  · rename_i hb
    rw [if_neg hb] at h
    split
    · rename_i p hf
      rw [hf] at h
      exact absurd rfl h
    · rfl
theorem may_one {a : Int} (h0 : 0 ≤ a) (h1 : a + 1 ≤ TOP) : mayN TOP a 1 = 0 := by
  have h := may_is TOP a 1
  unfold TOP at *
  have e : wrap64 (1099511627776 - 1) = 1099511627776 - 1 := IntWalk.wrap64_in _ (by omega)
  unfold mem_May.f at h
  rw [if_pos rfl, mem_May.j0, if_neg (by decide), if_neg (by decide), e, if_pos (Int.tmod_one a), if_neg (by omega), if_neg (by omega)] at h
  exact (Option.some.inj h).symm
/-- what is put there stands there -/
theorem room_find {d d2 : List Sp} {s : Sp} (hp : d2.Perm (d ++ [s])) (h1 : 1 ≤ s.f1) (h0 : 0 ≤ s.f0) (h2 : s.f0 + s.f1 ≤ TOP) (ha : ∀ y ∈ d, s.f0 + s.f1 ≤ y.f0 ∨ y.f0 + y.f1 ≤ s.f0) (hR : ∀ y ∈ d, Rgt y) : fnd d2 s.f0 1 = (s, 0, 0) := by
  rw [fnd, if_pos (may_one h0 (by omega))]
  have hs : s ∈ d2 := hp.mem_iff.2 (by simp)
  have hit_s : hit s.f0 1 s = true := by simp [hit]; omega
  cases hf : d2.find? (hit s.f0 1) with
  | none => exact absurd hit_s (List.find?_eq_none.1 hf s hs)
  | some t =>
    have ht := List.mem_of_find?_eq_some hf
    have hh : t.f0 ≤ s.f0 ∧ s.f0 - t.f0 ≤ t.f1 - 1 := by simpa [hit] using List.find?_some hf
    rcases List.mem_append.1 (hp.mem_iff.1 ht) with h | h
    · have := ha t h
      have := (hR t h).2.1
      omega
    · rw [List.mem_singleton] at h
      subst h
      simp
theorem room_new {d : List Sp} {s : Sp} {w w' : World} {n : Nat} {v : Value} {r : Int} (hn : d.length < 32) (hR : ∀ y ∈ d, rightB y = true) (hs : rightB s = true) (hN : d.Pairwise Ap2) (ha : ∀ y ∈ d, Ap2 y s)
    (h : NewOut w w' n (d ++ [s]) v r) : r = 0 ∧ ∃ d2 : List Sp, d2.Perm (d ++ [s]) ∧ ∃ g A c, v = .pointer (some ⟨g, 0, none⟩) ∧ Row w' g #[.slice A n c] ∧ Kd.C k33 w' A n d2 := by
  have hR' : ∀ y ∈ d ++ [s], rightB y = true := fun y hy => by
    rcases List.mem_append.1 hy with h | h
    · exact hR y h
    · rw [List.mem_singleton] at h; rw [h]; exact hs
  have hNb : ¬ newBad (d ++ [s]) := by
    rintro (h | ⟨y, hy, h⟩)
    · simp at h; omega
    · rw [hR' y hy] at h; cases h
  rcases h with ⟨h, -⟩ | ⟨-, d2, hp, hs2, ⟨hn2, -, -⟩ | ⟨-, rfl, g, A, c, rfl, -, hrow, -, hC, -⟩⟩
  · exact absurd h hNb
  · refine absurd ?_ hn2
    rw [noovl_iff hs2 (fun y hy => (right_rgt (hR' y (hp.mem_iff.1 hy))).1)]
    rw [List.Perm.pairwise_iff (fun h => Ap2.symm h) hp, List.pairwise_append]
    exact ⟨hN, List.pairwise_singleton _ _, fun a ha' b hb => by rw [List.mem_singleton] at hb; rw [hb]; exact ha a ha'⟩
  · exact ⟨rfl, d2, hp, g, A, c, rfl, hrow, hC⟩
theorem set3 (a b c : Int) : (((ES z33).setIfInBounds 0 (.int .i64 a)).setIfInBounds 1 (.int .i64 b)).setIfInBounds 2 (.int .i64 c) = ES ⟨a, b, c, 0⟩ := rfl
attribute [local go_sem high] eqSS
attribute [local go_sem] ES_z foldS set3 bne_self_eq_false
set_option maxRecDepth 100000 in
set_option maxHeartbeats 4000000 in
theorem room_law (A : Option Addr) (n c : Nat) (d : List Sp) (sz st e kd : Int) (w : World) (hr : Kd.C k33 w A n d) :
    Calls Try.prog 8 #[.slice A n c, .int .i64 sz, .int .i64 st, .int .i64 e, .int .i64 kd] w fun en w' => en = .returned (.bool true) ∧ Below w.heap.size w w' := by
  have hn : d.length = n := Kd.C_len hr
  have hmx := Kd.C_max hr
  go_enter Try.func8, Try.ntmps8
  go_wp2_with fail
  refine (awake_c w).mono ?_
  rintro en W1 ⟨rfl, hB1⟩
  have hC1 := Kd.C_below hr hB1
  clear hr
  go_wp2_with fail
  refine (New_c A n c d W1 hC1).mono ?_
  rintro en W2 ⟨v, r, rfl, hb2, ho⟩
  have hB2 : Below w.heap.size w W2 := bk hB1 hB1.size hb2
  clear hC1 hB1 hb2
  have hnil : v = .pointer none ∨ (¬ newBad d ∧ ∃ d' : List Sp, d'.Perm d ∧ Srt d' ∧ NoOvl d' ∧ ∃ g A' c', v = .pointer (some ⟨g, 0, none⟩) ∧ Row W2 g #[.slice A' n c'] ∧ Kd.C k33 W2 A' n d') := by
    rcases ho with ⟨-, h, -⟩ | ⟨hb, d', hp, hs, ⟨-, h, -⟩ | ⟨hno, -, g, A', c', h, -, hrow, -, hC, -⟩⟩
    · exact .inl h
    · exact .inl h
    · exact .inr ⟨hb, d', hp, hs, hno, g, A', c', h, hrow, hC⟩
  clear ho
  rcases hnil with rfl | ⟨hb, d', hp, hs, hno, g, A', c', rfl, hrow, hC⟩
  · go_wp2
    go_ret
    exact ⟨rfl, hB2⟩
  have hn' : d'.length = n := Kd.C_len hC
  have h32 := new_32 hb
  have hRb : ∀ y ∈ d', rightB y = true := fun y hy => by
    cases h : rightB y with
    | true => rfl
    | false => exact absurd (.inr ⟨y, hp.mem_iff.1 hy, h⟩) hb
  have hD : ∀ y ∈ d', Rgt y := fun y hy => (right_rgt (hRb y hy)).1
  have HD := Lib.hid hD
  have HRb := Lib.hid hRb
  have HNo := Lib.hid hno
  have HPw := Lib.hid ((noovl_iff hs hD).1 hno)
  have HL := Lib.hid hn'
  have HP := Lib.hid (Place_c A' n c' d' g sz st e W2 hrow hC hD)
  have lg := hrow.lt
  have l2 := hB2.size
  clear hb hp hs hno hRb hD hn' hn
  go_wp2_with fail
  refine HP.out.mono ?_
  rintro en W3 ⟨rfl, hb3⟩
  have hC3 := Kd.C_below hC hb3
  have hR3 := hrow.below hb3 lg
  have hB3 : Below w.heap.size w W3 := bk hB2 l2 hb3
  clear HP hC hrow hB2 hb3 lg l2
  have HBW := Lib.hid (show ∀ x, Below w.heap.size w ((W3.alloc (.cells (ES z33) 33)).setRow W3.heap.size (ES x)) from fun x => below_setRow (hB3.alloc hB3.size _) hB3.size _)
  by_cases he : (plc d' sz st e).2 = 0
  case neg =>
    have ha := plc_bad he
    have q0 : ((plc d' sz st e).2 != 0) = true := by simpa using he
    rw [ha]
    generalize (plc d' sz st e).2 = en2 at *
    clear he ha
    go_wp2
    go_ret
    exact ⟨rfl, HBW.out _⟩
  generalize hpl : plc d' sz st e = pl at *
  obtain ⟨at_, en2⟩ := pl
  dsimp only at he
  subst he
  dsimp only
  obtain ⟨g1, g2, g3, g4, g5, g6, g7, g8⟩ := plc_ok HD.out HNo.out hpl
  have HA := Lib.hid g8
  clear hpl g8
  by_cases k1 : kd < 1
  · have q1 := decide_eq_true k1
    clear g7
    go_wp2 <;> (go_ret; exact ⟨rfl, HBW.out _⟩)
  by_cases k2 : 4 < kd
  · have q1 := decide_eq_false k1
    have q2 := decide_eq_true k2
    clear g7
    go_wp2 <;> (go_ret; exact ⟨rfl, HBW.out _⟩)
  by_cases k3 : (32 : Int) ≤ n
  · have q1 := decide_eq_false k1
    have q2 := decide_eq_false k2
    have q3 := decide_eq_true k3
    clear g7
    go_wp2 <;> (go_ret; exact ⟨rfl, HBW.out _⟩)
  have q1 := decide_eq_false k1
  have q2 := decide_eq_false k2
  have q3 := decide_eq_false k3
  have HG7 := Lib.hid g7
  clear g7
  have hz : Below W3.heap.size W3 ((W3.alloc (.cells (ES z33) 33)).setRow W3.heap.size (ES ⟨at_, sz, kd, 0⟩)) := below_setRow ((Below.refl _ W3).alloc (Nat.le_refl _) _) (Nat.le_refl _) _
  have hRz := hR3.below hz hR3.lt
  have hCz := Kd.C_below hC3 hz
  have hBz := HBW.out ⟨at_, sz, kd, 0⟩
  have HG := Lib.hid (show 1 ≤ sz ∧ 1 ≤ st ∧ 0 ≤ at_ ∧ at_ + sz ≤ e ∧ e ≤ TOP ∧ st ≤ TOP from ⟨g1, g2, g3, g4, g5, g6⟩)
  have HKD := Lib.hid (show 1 ≤ kd ∧ kd ≤ 4 ∧ n < 32 from ⟨by omega, by omega, by omega⟩)
  clear hz h32 g1 g2 g3 g4 g5 g6 k1 k2 k3
  go_wp2_with fail
  refine calls_named (fun W_ => (isRow W_ W3.heap.size ∧ rowAt W_ W3.heap.size = ES ⟨at_, sz, kd, 0⟩) ∧ Row W_ g #[.slice A' n c'] ∧ Kd.C k33 W_ A' n d' ∧ Below w.heap.size w W_) ⟨⟨by go_simp, by go_simp⟩, hRz, hCz, hBz⟩ ?_
  rintro W4 ⟨⟨x4, x4'⟩, hrw4, hC4, hB4⟩
  clear hRz hCz hBz hC3 hR3 hB3 HBW
  refine (With_c A' n c' d' g ⟨at_, sz, kd, 0⟩ W4 hrw4 hC4 (by have := HKD.out.2.2; omega)).mono ?_
  rintro en W5 ⟨v2, r2, rfl, hb5, ho2⟩
  obtain ⟨j1, j2, j3, j4, j5, j6⟩ := HG.out
  obtain ⟨j7, j8, j9⟩ := HKD.out
  have hsr : rightB ⟨at_, sz, kd, 0⟩ = true := right_true (s := ⟨at_, sz, kd, 0⟩) j3 j1 (by show at_ + sz ≤ TOP; omega) j7 j8 (Int.le_refl 0)
  have hL0 : d'.length < 32 := by rw [HL.out]; exact j9
  obtain ⟨rfl, d2, hp2, gc, A2, c2, rfl, hrow2, hC2⟩ := room_new hL0 HRb.out hsr HPw.out (fun y hy => (HA.out y hy).symm) ho2
  have hD2 : ∀ y ∈ d2, Rgt y := fun y hy => by
    rcases List.mem_append.1 (hp2.mem_iff.1 hy) with h | h
    · exact HD.out y h
    · rw [List.mem_singleton] at h
      rw [h]
      exact (right_rgt hsr).1
  have hfn := room_find hp2 j1 j3 (by show at_ + sz ≤ TOP; omega) HA.out HD.out
  dsimp only at hfn
  have hL2 : d2.length = n + 1 := by rw [hp2.length_eq, List.length_append, List.length_singleton, HL.out]
  have lg4 := hrw4.lt
  obtain ⟨x5, x5'⟩ := Row.step x4 x4' hb5
  have hrw5 := hrw4.below hb5 lg4
  have hC5 := Kd.C_below hC4 hb5
  have hB5 : Below w.heap.size w W5 := bk hB4 hB4.size hb5
  have HF := Lib.hid (Find_c A2 (n + 1) c2 d2 gc at_ 1 W5 hrow2 hC2 hD2)
  rw [hfn] at HF
  have w1 : IntKind.i64.wrap (at_ + sz) = at_ + sz := IntWalk.i64_in _ (by unfold TOP at j5; omega)
  have u1 : Int.tmod at_ st = 0 := by rw [Int.tmod_eq_emod_of_nonneg j3]; exact HG7.out
  have u2 : ¬ st = 0 := by omega
  have u3 : (st == 0) = false := by simpa using u2
  have u4 : decide (e < at_ + sz) = false := decide_eq_false (by omega)
  have w2 : IntKind.i64.wrap 0 = 0 := rfl
  have HL2 := Lib.hid hL2
  have HD2 := Lib.hid hD2
  clear hp2 hD2 hfn hL2 hsr hL0 ho2 x4 x4' hrw4 hC4 hB4 hb5 lg4 j1 j2 j3 j4 j5 j6 j7 j8 j9
  have lr := hrow2.lt
  have l5 := hB5.size
  have lx := x5.lt
  have lg5 := hrw5.lt
  go_wp2_with fail
  refine HF.out.mono ?_
  rintro en W6 ⟨rfl, hb6⟩
  obtain ⟨x6, x6'⟩ := Row.step x5 x5' hb6
  have hrw6 := hrw5.below hb6 lg5
  have hC6 := Kd.C_below hC5 hb6
  have hB6 : Below w.heap.size w W6 := bk hB5 l5 hb6
  have hrow6 := hrow2.below hb6 lr
  have hCc6 := Kd.C_below hC2 hb6
  clear x5 x5' hrw5 hC5 hB5 hrow2 hC2 hb6 HF lr l5 lx lg5
  have l6 := hB6.size
  have lx := x6.lt
  have n5 : ¬ W3.heap.size = W6.heap.size := by omega
  have n6 : ¬ W6.heap.size = W3.heap.size := by omega
  have hz : Below W6.heap.size W6 ((W6.alloc (.cells (ES z33) 33)).setRow W6.heap.size (ES ⟨at_, sz, kd, 0⟩)) := below_setRow ((Below.refl _ W6).alloc (Nat.le_refl _) _) (Nat.le_refl _) _
  have hRz := hrw6.below hz hrw6.lt
  have hCz := Kd.C_below hC6 hz
  have hBz := bk hB6 l6 hz
  have hrz := hrow6.below hz hrow6.lt
  have hCcz := Kd.C_below hCc6 hz
  clear hrw6 hC6 hB6 hrow6 hCc6 hz
  go_wp2_with fail
  refine calls_named (fun W_ => Row W_ g #[.slice A' n c'] ∧ Kd.C k33 W_ A' n d' ∧ Row W_ gc #[.slice A2 (n + 1) c2] ∧ Kd.C k33 W_ A2 (n + 1) d2 ∧ Below w.heap.size w W_) ⟨hRz, hCz, hrz, hCcz, hBz⟩ ?_
  rintro W7 ⟨hrw7, hC7, hrow7, hCc7, hB7⟩
  clear hRz hCz hrz hCcz hBz x6 x6' n5 n6 l6 lx
  have lg := hrw7.lt
  refine (all_c A2 (n + 1) c2 d2 gc W7 hrow7 hCc7 (by have := HKD.out.2.2; omega)).mono ?_
  rintro en W8 ⟨A8, c8, rfl, -, -, hb8⟩
  rw [HL2.out]
  have hrw8 := hrw7.below hb8 lg
  have hC8 := Kd.C_below hC7 hb8
  have hB8 : Below w.heap.size w W8 := bk hB7 hB7.size hb8
  clear hrw7 hC7 hrow7 hCc7 hB7 hb8 lg
  have lg := hrw8.lt
  have l8 := hB8.size
  have w3 : IntKind.i64.wrap ((n : Int) + 1) = (n : Int) + 1 := IntWalk.i64_in _ (by have := HKD.out.2.2; omega)
  have HA1 := Lib.hid (all_c A' n c' d' g W8 hrw8 hC8 (by have := HKD.out.2.2; omega))
  rw [HL.out] at HA1
  go_wp2_with fail
  refine HA1.out.mono ?_
  rintro en W9 ⟨A9, c9, rfl, hc9, hC9, hb9⟩
  have hrw9 := hrw8.below hb9 lg
  have hCb := Kd.C_below hC8 hb9
  have hB9 : Below w.heap.size w W9 := bk hB8 l8 hb9
  clear hrw8 hC8 hB8 hb9 lg l8 HA1
  have l9 := hB9.size
  have HA2 := Lib.hid (all_c A' n c' d' g W9 hrw9 hCb (by have := HKD.out.2.2; omega))
  rw [HL.out] at HA2
  clear hrw9 hCb
  go_wp2_with fail
  refine HA2.out.mono ?_
  rintro en Wa ⟨Aa, ca, rfl, hca, hCa, hba⟩
  have hC9a := Kd.C_below hC9 hba
  have hBa : Below w.heap.size w Wa := bk hB9 l9 hba
  obtain ⟨k5, hk5⟩ := sameS_refl (l := d') (by have := HKD.out.2.2; have := HL.out; omega)
  have HS := Lib.hid (crierlaw05_same.calls k5 A9 c9 d' Aa ca d' true Wa (by rw [HL.out]; exact hC9a) (by rw [HL.out]; exact hc9) (by rw [HL.out]; exact hCa) (by rw [HL.out]; exact hca) hk5)
  rw [HL.out] at HS
  clear hC9 hba hB9 l9 HA2 hC9a hCa hk5
  go_wp2_with fail
  refine HS.out.mono ?_
  rintro en Wb ⟨rfl, hbb⟩
  have hBb : Below w.heap.size w Wb := bk hBa hBa.size hbb.below
  clear HS hBa hbb
  go_wp2
  go_ret
  exact ⟨rfl, hBb⟩
end Go.Proofs.Ytjkbocejdjnfiaa.Bs
