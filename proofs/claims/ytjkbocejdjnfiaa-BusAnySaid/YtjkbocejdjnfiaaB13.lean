/- The law BusFrees. -/
import Derived.Test.YtjkbocejdjnfiaaB12
namespace Go.Proofs.Ytjkbocejdjnfiaa.Bs
open Go.RowKit Go.Shelf Go.Proofs.Ytjkbocejdjnfiaa.IAll Go.Proofs.YtjkbocejdjnfiaaW.PrintWords Go.Proofs.YtjkbocejdjnfiaaW.PrintLast Go.Proofs.YtjkbocejdjnfiaaW.PrintMore
attribute [local go_sem] Oper.semAt_some cell_row frozen_row isRow_setCell_eq rowAt_setCell_same rowAt_setCell_other isRow_alloc_eq rowAt_alloc rowAt_new rowAt_new' isRow_setRow_eq rowAt_setRow_same rowAt_setRow_other isRow_drew rowAt_drew size_setRow_ size_drew_ blk_ptr aggOf_agg below_alloc_e below_setCell_e below_setRow_e below_refl_e below_drew_r isRow_drewN rowAt_drewN below_drewN_e le_add_r asideP_alloc_e asideP_setCell_e asideP_setRow_e asideP_drew_e asideP_drewN_e asideP_refl_e cell_setRow_far cell_setCell_far cell_drew_ heap_setCell_far heap_setRow_far heap_drew_ ES_size ES_one ES_fold ES_0 ES_1 allOne_nil allOne_cons Value.oneCell'
attribute [local go_sem ↓] loadS storeS loadSg storeSg
/-- both buses, of what is handed in -/
theorem pair_new {w w' : World} {d : List Sp} {v : Value} {r : Int} (h : NewOut w w' d.length d v r) :
    (((r == 0) = false ∧ (r != 0) = true) ∧ v = .pointer none ∧ ∃ r1, Ev (fun k => crierref05_New.f k d) (r1, r)) ∨
    (r = 0 ∧ d.length ≤ 32 ∧ (∀ y ∈ d, Rgt y) ∧ ∃ d' : List Sp, d'.Perm d ∧ Srt d' ∧ NoOvl d' ∧ (∀ y ∈ d', Rgt y) ∧ d'.length = d.length ∧ Ev (fun k => crierref05_New.f k d) (d', 0) ∧
      ∃ g A' c', v = .pointer (some ⟨g, 0, none⟩) ∧ Row w' g #[.slice A' d'.length c'] ∧ d'.length ≤ c' ∧ Kd.C k33 w' A' d'.length d') := by
  rcases h with ⟨hb, rfl, rfl⟩ | ⟨hb, d1, hp, hs, h⟩
  · rcases refNew d with ⟨-, h⟩ | ⟨h, -⟩
    · exact .inl ⟨⟨rfl, rfl⟩, rfl, _, h⟩
    · exact absurd hb h
  · have h32 : d.length ≤ 32 := by
      rcases Nat.lt_or_ge 32 d.length with h | h
      · exact absurd (.inl h) hb
      · exact h
    have hD : ∀ y ∈ d, Rgt y := fun y hy => by
      refine (right_rgt ?_).1
      cases h : rightB y with
      | true => rfl
      | false => exact absurd (.inr ⟨y, hy, h⟩) hb
    rcases refNew d with ⟨h2, -⟩ | ⟨-, d2, hp2, hs2, h2⟩
    · exact absurd h2 hb
    obtain ⟨hi, he⟩ := one_bus hD hp hp2 hs hs2
    rcases h with ⟨hn, rfl, rfl⟩ | ⟨hn, rfl, g, A', c', rfl, -, hrow, hc', hC, -⟩
    · rcases h2 with ⟨-, h2⟩ | ⟨h2, -⟩
      · exact .inl ⟨⟨rfl, rfl⟩, rfl, _, h2⟩
      · exact absurd (hi.2 h2) hn
    · rcases h2 with ⟨h2, -⟩ | ⟨-, h2⟩
      · exact absurd (hi.1 hn) h2
      · rw [← he hn] at h2
        have hl := hp.length_eq
        rw [← hl] at hrow hc' hC
        exact .inr ⟨rfl, h32, hD, d1, hp, hs, hn, fun y hy => hD y (hp.mem_iff.1 hy), hl, h2, g, A', c', rfl, hrow, hc', hC⟩
theorem same_refl {l : List Int} (hl : l.length ≤ 4398046511104) : Ev (fun k => crierref01_Same.f k l l) true := by
  have h : ∀ m i : Nat, l.length = i + m → Ev (fun k => crierref01_Same.l0 k l l i) true := by
    intro m
    induction m with
    | zero => exact fun i e => Ev.now (by rw [crierref01_Same.l0, if_neg (by omega)])
    | succ m ih =>
      intro i e
      refine (ih (i + 1) (by omega)).step fun k => ?_
      rw [crierref01_Same.l0, if_pos (by omega), if_pos (by omega), if_pos (by omega), if_pos rfl, w64n (by omega)]
  obtain ⟨k, hk⟩ := h l.length 0 (by omega)
  exact ⟨k, by show crierref01_Same.f k l l = _; rw [crierref01_Same.f, if_pos rfl]; exact hk⟩
set_option maxRecDepth 100000 in
set_option maxHeartbeats 4000000 in
theorem frees_law (A : Option Addr) (c : Nat) (d : List Sp) (sz st e : Int) (w : World) (hr : Kd.C k33 w A d.length d) (hc : d.length ≤ c) (he : e ≤ 9223372036854775807) :
    Calls Try.prog 4 #[.slice A d.length c, .int .i64 sz, .int .i64 st, .int .i64 e] w fun en w' => en = .returned (.bool true) ∧ Below w.heap.size w w' := by
  go_enter Try.func4, Try.ntmps4
  go_wp2_with fail
  refine (awake_c w).mono ?_
  rintro en W1 ⟨rfl, hB1⟩
  have hC1 := Kd.C_below hr hB1
  clear hr
  go_wp2_with fail
  refine (New_c A d.length c d W1 hC1).mono ?_
  rintro en W2 ⟨v, r, rfl, hb2, ho⟩
  have hB2 : Below w.heap.size w W2 := bk hB1 hB1.size hb2
  have hC2 := Kd.C_below hC1 hb2
  clear hC1 hB1 hb2
  rcases pair_new ho with ⟨⟨q0, q1⟩, rfl, r1, k1, hk1⟩ | ⟨rfl, h32, -, d', -, -, -, hD, hl, ⟨k1, hk1⟩, g, A', c', rfl, hrow, hc', hC⟩
  · clear ho
    go_wp2_with fail
    refine (crierref05_New.calls k1 A c d r1 r W2 hC2 hc hk1).mono ?_
    rintro en W3 ⟨v3, rfl, -, hb3⟩
    have hB3 : Below w.heap.size w W3 := bk hB2 hB2.size hb3
    clear hC2 hB2 hb3 hk1
    go_wp2
    go_ret
    exact ⟨rfl, hB3⟩
  · clear ho
    have h32' : d'.length ≤ 32 := by omega
    clear hl h32
    have lg := hrow.lt
    have l2 := hB2.size
    go_wp2_with fail
    refine (crierref05_New.calls k1 A c d d' 0 W2 hC2 hc hk1).mono ?_
    rintro en W3 ⟨v3, rfl, hR3, hb3⟩
    obtain ⟨A3, c3, rfl, hc3, hC3⟩ := Kd.R_reads hR3
    have hCa := Kd.C_below hC hb3
    have hRa := hrow.below hb3 lg
    have hB3 : Below w.heap.size w W3 := bk hB2 l2 hb3
    clear hC2 hB2 hb3 hk1 hC hrow hR3 lg l2
    have lg := hRa.lt
    have l3 := hB3.size
    have HP := Lib.hid (Place_c A' d'.length c' d' g sz st e W3 hRa hCa hD)
    go_wp2_with fail
    refine HP.out.mono ?_
    rintro en W4 ⟨rfl, hb4⟩
    have hC4 := Kd.C_below hC3 hb4
    have hCb := Kd.C_below hCa hb4
    have hRb := hRa.below hb4 lg
    have hB4 : Below w.heap.size w W4 := bk hB3 l3 hb4
    clear HP hC3 hCa hRa hB3 hb4 lg l3
    have lg := hRb.lt
    have l4 := hB4.size
    obtain ⟨k2, hk2⟩ := refPlace (d := d') (by omega) hD sz st e
    have HP := Lib.hid (crierref05_Place.calls k2 A3 c3 d' sz st e (plc d' sz st e).1 (plc d' sz st e).2 W4 hC4 hc3 hk2)
    clear hk2
    generalize (plc d' sz st e).1 = p1 at *
    generalize (plc d' sz st e).2 = p2 at *
    go_wp2_with fail
    refine HP.out.mono ?_
    rintro en W5 ⟨rfl, hb5⟩
    have hC5 := Kd.C_below hC4 hb5
    have hCc := Kd.C_below hCb hb5
    have hRc := hRb.below hb5 lg
    have hB5 : Below w.heap.size w W5 := bk hB4 l4 hb5
    clear HP hC4 hCb hRb hB4 hb5 lg l4
    have lg := hRc.lt
    have l5 := hB5.size
    have HF := Lib.hid (free_k A' d'.length c' d' g e W5 hRc hCc hD (by omega) he)
    obtain ⟨k3, hk3⟩ := refFree (d := d') (by omega) hD he
    obtain ⟨k4, hk4⟩ := same_refl (l := flI (fr e d')) (by rw [flI_len]; have := fr_len e d'; omega)
    go_wp2_with fail
    refine HF.out.mono ?_
    rintro en W6 ⟨A6, c6, rfl, hc6, hC6, hb6⟩
    have hCd := Kd.C_below hC5 hb6
    have hB6 : Below w.heap.size w W6 := bk hB5 l5 hb6
    clear HF hC5 hCc hRc hB5 hb6 lg l5
    have l6 := hB6.size
    go_wp2_with fail
    refine (crierref05_Free.calls k3 A3 c3 d' e _ W6 hCd hc3 hk3).mono ?_
    rintro en W7 ⟨v7, rfl, hR7, hb7⟩
    obtain ⟨A7, c7, rfl, hc7, hC7⟩ := Kd.R_reads hR7
    have hCe := Kd.C_below hC6 hb7
    have hB7 : Below w.heap.size w W7 := bk hB6 l6 hb7
    clear hC6 hCd hR7 hB6 hb7 l6
    go_wp2_with fail
    refine (crierref01_Same.calls k4 A6 c6 _ A7 c7 _ true W7 hCe hc6 hC7 hc7 hk4).mono ?_
    rintro en W8 ⟨rfl, hb8⟩
    have hB8 : Below w.heap.size w W8 := bk hB7 hB7.size hb8.below
    clear hCe hC7 hB7 hb8
    go_wp2
    go_ret
    exact ⟨rfl, hB8⟩
end Go.Proofs.Ytjkbocejdjnfiaa.Bs
