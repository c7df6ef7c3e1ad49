/- The law BusAny. -/
import Derived.Test.YtjkbocejdjnfiaaB13
import Derived.Test.YtjkbocejdjnfiaaIAllx7
namespace Go.Proofs.Ytjkbocejdjnfiaa.Bs
open Go.RowKit Go.Shelf Go.Proofs.Ytjkbocejdjnfiaa.IAll Go.Proofs.YtjkbocejdjnfiaaW.PrintWords Go.Proofs.YtjkbocejdjnfiaaW.PrintLast Go.Proofs.YtjkbocejdjnfiaaW.PrintMore
attribute [local go_sem] Oper.semAt_some cell_row frozen_row isRow_setCell_eq rowAt_setCell_same rowAt_setCell_other isRow_alloc_eq rowAt_alloc rowAt_new rowAt_new' isRow_setRow_eq rowAt_setRow_same rowAt_setRow_other isRow_drew rowAt_drew size_setRow_ size_drew_ blk_ptr aggOf_agg below_alloc_e below_setCell_e below_setRow_e below_refl_e below_drew_r isRow_drewN rowAt_drewN below_drewN_e le_add_r asideP_alloc_e asideP_setCell_e asideP_setRow_e asideP_drew_e asideP_drewN_e asideP_refl_e cell_setRow_far cell_setCell_far cell_drew_ heap_setCell_far heap_setRow_far heap_drew_ ES_size ES_one ES_fold ES_0 ES_1 allOne_nil allOne_cons Value.oneCell'
attribute [local go_sem ↓] loadS storeS loadSg storeSg
theorem sameS_refl {l : List Sp} (hl : l.length ≤ 4398046511104) : Ev (fun k => crierlaw05_same.f k l l) true := by
  have h : ∀ m i : Nat, l.length = i + m → Ev (fun k => crierlaw05_same.l0 k l l i) true := by
    intro m
    induction m with
    | zero => exact fun i e => Ev.now (by rw [crierlaw05_same.l0, if_neg (by omega)])
    | succ m ih =>
      intro i e
      refine (ih (i + 1) (by omega)).step fun k => ?_
      rw [crierlaw05_same.l0, if_pos (by omega), if_pos (by omega), if_pos (by omega), if_neg (by simp), w64n (by omega)]
  obtain ⟨k, hk⟩ := h l.length 0 (by omega)
  exact ⟨k, by show crierlaw05_same.f k l l = _; rw [crierlaw05_same.f, if_pos rfl]; exact hk⟩
theorem wfu8 {n : Int} (h : (Lit.int .u8 n).wf = true) : 0 ≤ n ∧ n ≤ 255 := by
  simp [Lit.wf, IntKind.min, IntKind.max, IntKind.signed, IntKind.bits] at h
  omega
/-- the spans from the t-th on, then the others -/
def rot (d : List Sp) (t : Nat) : List Sp := d.drop (t % d.length) ++ d.take (t % d.length)
theorem rot_perm (d : List Sp) (t : Nat) : (rot d t).Perm d := by
  unfold rot
  refine List.perm_append_comm.trans ?_
  rw [List.take_append_drop]
theorem rot_len (d : List Sp) (t : Nat) : (rot d t).length = d.length := (rot_perm d t).length_eq
theorem rd_rot {d : List Sp} {t k : Nat} (h : k < d.length) : rd_T33 (rot d t) k = rd_T33 d ((k + t) % d.length : Nat) := by
  have hm : (k + t) % d.length < d.length := Nat.mod_lt _ (by omega)
  have ht : t % d.length < d.length := Nat.mod_lt _ (by omega)
  have e1 : (k + t) % d.length = (k + t % d.length) % d.length := by rw [Nat.add_mod, Nat.mod_eq_of_lt h]
  unfold rd_T33
  rw [Int.toNat_natCast, Int.toNat_natCast, List.getD_eq_getElem?_getD, List.getD_eq_getElem?_getD]
  congr 1
  unfold rot
  generalize (k + t) % d.length = m at *
  generalize t % d.length = r at *
  rw [List.getElem?_append, List.length_drop]
  split
  · rename_i hl
    rw [Nat.mod_eq_of_lt (by omega)] at e1
    rw [List.getElem?_drop, e1, Nat.add_comm]
  · rename_i hl
    rw [Nat.mod_eq_sub_mod (by omega), Nat.mod_eq_of_lt (by omega)] at e1
    rw [List.getElem?_take, if_pos (by omega)]
    congr 1
    omega
theorem newBad_perm {a b : List Sp} (h : a.Perm b) : newBad a ↔ newBad b := by
  unfold newBad
  rw [h.length_eq]
  constructor
  · rintro (h1 | ⟨s, h1, h2⟩)
    · exact .inl h1
    · exact .inr ⟨s, h.mem_iff.1 h1, h2⟩
  · rintro (h1 | ⟨s, h1, h2⟩)
    · exact .inl h1
    · exact .inr ⟨s, h.mem_iff.2 h1, h2⟩
theorem new_rgt {d : List Sp} (hb : ¬ newBad d) : ∀ y ∈ d, Rgt y := fun y hy => by
  refine (right_rgt ?_).1
  cases h : rightB y with
  | true => rfl
  | false => exact absurd (.inr ⟨y, hy, h⟩) hb
theorem new_32 {d : List Sp} (hb : ¬ newBad d) : d.length ≤ 32 := by
  rcases Nat.lt_or_ge 32 d.length with h | h
  · exact absurd (.inl h) hb
  · exact h
/-- two buses, of the same spans in two orders -/
theorem any_new {w w' u u' : World} {a b : List Sp} {n : Nat} {v v' : Value} {r r' : Int} (hp : b.Perm a) (h : NewOut w w' n a v r) (h' : NewOut u u' n b v' r') : r' = r ∧ ((v = .pointer none ∧ v' = .pointer none) ∨
    (n ≤ 32 ∧ ∃ d : List Sp, d.Perm a ∧ ∃ g A c g' A' c', v = .pointer (some ⟨g, 0, none⟩) ∧ Row w' g #[.slice A n c] ∧ Kd.C k33 w' A n d ∧ v' = .pointer (some ⟨g', 0, none⟩) ∧ Row u' g' #[.slice A' n c'] ∧ Kd.C k33 u' A' n d)) := by
  rcases h with ⟨hb, rfl, rfl⟩ | ⟨hb, d1, hp1, hs1, h⟩
  · rcases h' with ⟨-, rfl, rfl⟩ | ⟨hb', -⟩
    · exact ⟨rfl, .inl ⟨rfl, rfl⟩⟩
    · exact absurd ((newBad_perm hp).2 hb) hb'
  · rcases h' with ⟨hb', -⟩ | ⟨-, d2, hp2, hs2, h'⟩
    · exact absurd ((newBad_perm hp).1 hb') hb
    obtain ⟨hi, he⟩ := one_bus (new_rgt hb) hp1 (hp2.trans hp) hs1 hs2
    rcases h with ⟨hn, rfl, rfl⟩ | ⟨hn, rfl, g, A, c, rfl, -, hrow, -, hC, -⟩
    · rcases h' with ⟨-, rfl, rfl⟩ | ⟨hn', -⟩
      · exact ⟨rfl, .inl ⟨rfl, rfl⟩⟩
      · exact absurd (hi.2 hn') hn
    · rcases h' with ⟨hn', -⟩ | ⟨-, rfl, g', A', c', rfl, -, hrow', -, hC', -⟩
      · exact absurd (hi.1 hn) hn'
      · have hl := Kd.C_len hC
        have h32 := new_32 hb
        rw [← he hn] at hC'
        exact ⟨rfl, .inr ⟨by rw [← hp1.length_eq] at h32; omega, d1, hp1, g, A, c, g', A', c', rfl, hrow, hC, rfl, hrow', hC'⟩⟩
theorem foldS (x : Sp) : Array.foldl (fun cs x => cs.setIfInBounds x.snd x.fst) #[Value.int .i64 0, .int .i64 0, .int .i64 0, .int .i64 0] (ES x).zipIdx 0 4 = ES x := rfl
attribute [local go_sem] foldS
set_option maxRecDepth 100000 in
set_option maxHeartbeats 4000000 in
theorem any_law (A : Option Addr) (n c : Nat) (d : List Sp) (t : Nat) (w : World) (hr : Kd.C k33 w A n d) (hbig : n ≤ 4398046511100) (ht : t ≤ 255) :
    Calls Try.prog 5 #[.slice A n c, .int .u8 (t : Int)] w fun en w' => en = .returned (.bool true) ∧ Below w.heap.size w w' := by
  have hn : d.length = n := Kd.C_len hr
  go_enter Try.func5, Try.ntmps5
  go_wp2_with fail
  refine (awake_c w).mono ?_
  rintro en W1 ⟨rfl, hB1⟩
  have HC0 := Lib.hid hr
  clear hr
  go_wp2
  have hR0 : Kd.R k33 33 W1 w.heap.size (fun _ => True) (.slice none 0 0) ((rot d t).take 0) := Kd.R_nil _ _ _ _ _
  have HN := Lib.hid hn
  have HRL := Lib.hid (rot_len d t)
  clear hn
  go_loopw [6, 7] (fun p q wr => ∃ k : Nat, k ≤ n ∧ q = .int .i64 k ∧ Kd.R k33 33 wr w.heap.size (fun _ => True) p ((rot d t).take k) ∧ Below w.heap.size w wr) (fun _ q _ => n - (intOf q).toNat)
  case atStart => exact ⟨0, by omega, rfl, hR0, hB1⟩
  case round =>
    obtain ⟨k, hk, rfl, hR, hB⟩ := hrel
    clear hR0 hB1
    have hC := Kd.C_below HC0.out hB
    by_cases hlt : k < n
    · have c1 : (k : Int) < n := by omega
      have w1 : IntKind.i64.wrap (t : Int) = t := IntWalk.i64_in _ (by omega)
      have w2 : IntKind.i64.wrap ((k : Int) + t) = (k : Int) + t := IntWalk.i64_in _ (by omega)
      have w3 : IntKind.i64.wrap ((k : Int) + 1) = (k : Int) + 1 := IntWalk.i64_in _ (by omega)
      have hm : (k + t) % n < n := Nat.mod_lt _ (by omega)
      have HS := Lib.hid (take_next (d := rot d t) (k := k) (by have := HRL.out; have := HN.out; omega))
      have HT := Lib.hid (rd_rot (d := d) (t := t) (k := k) (by have := HN.out; omega))
      have hq : Int.tmod ((k : Int) + t) n = ((k + t) % n : Nat) := by rw [Int.tmod_eq_emod_of_nonneg (by omega)]; rfl
      rw [HN.out] at HT
      generalize (k + t) % n = m at *
      have k0 : (0 : Int) ≤ m := by omega
      have k1 : (m : Int) < n := by omega
      have k2 : ¬ (n : Int) = 0 := by omega
      have k3 : ((n : Int) == 0) = false := by simp; omega
      have w4 : IntKind.i64.wrap (m : Int) = m := IntWalk.i64_in _ (by omega)
      obtain ⟨ad, er, hx0, hx1, hx2, hx3⟩ := at_T33 hC (m : Int) k0 k1
      cases er
      rw [Int.toNat_natCast] at hx0 hx1 hx2 hx3
      have HRr := Lib.hid hR
      have HBr := Lib.hid hB
      clear hR hC hB hlt hk
      go_wp2_with ((with_reducible refine gate_builtin (b := .append) (xs := #[.tmp 21, .tmp 32]) rfl ?_); at_builtin; refine Kd.R_append k33 (w0 := w) w.heap.size rfl (.tmp 21) (.tmp 32) 22 33 (.agg (ES z33)) 32 rfl Try.underlying22 info33 rfl (by decide) (by omega) _ ((rot d t).take k) (rd_T33 d m) (EL' (rd_T33 d m)) (fun _ => True) (fun _ => False) rfl rfl (k33_mkM _ _ _ (rd_T33 d m)) (fun _ hk => hk.elim) (fun _ _ => trivial) ?aO ?aB ?aS ?aL ?_; (case aO => exact HRr.out); (case aB => exact HBr.out); (case aS => exact HBr.out.size); (case aL => have := HRL.out; have := HN.out; rw [List.length_take]; omega); intro v1 wv ho hb hg hat)
      go_roundw
      case rel =>
        refine ⟨k + 1, by omega, congrArg (Value.int .i64) (by omega), ?_, hb⟩
        rw [HS.out, HT.out]
        exact ho
      case measure => simp [intOf]; omega
    · obtain rfl : n = k := by omega
      rw [List.take_of_length_le (by have := HRL.out; have := HN.out; omega)] at hR
      obtain ⟨A5, c5, rfl, hc5, hC5⟩ := Kd.R_reads hR
      rw [HRL.out, HN.out] at hC5 hc5 ⊢
      have HP := Lib.hid (rot_perm d t)
      clear hR
      generalize rot d t = d2 at *
      go_wp2_with fail
      refine (New_c A n c d wr hC).mono ?_
      rintro en W2 ⟨v, r, rfl, hb2, ho⟩
      have hB2 : Below w.heap.size w W2 := bk hB hB.size hb2
      have hC6 := Kd.C_below hC5 hb2
      clear hC hC5 hB hb2
      go_wp2_with fail
      refine (New_c A5 n c5 d2 W2 hC6).mono ?_
      rintro en W3 ⟨v', r', rfl, hb3, ho'⟩
      have hB3 : Below w.heap.size w W3 := bk hB2 hB2.size hb3
      clear hC6 hB2
      obtain ⟨rfl, ⟨rfl, rfl⟩ | ⟨h32, d', -, g, A2, c2, g', A3, c3, rfl, hrow, hC2, rfl, hrow', hC3⟩⟩ := any_new HP.out ho ho'
      · clear ho ho'
        go_wp2
        go_ret
        exact ⟨rfl, hB3⟩
      · clear ho ho'
        have lg := hrow.lt
        have hrow2 := hrow.below hb3 lg
        have hC2' := Kd.C_below hC2 hb3
        have l3 := hB3.size
        have lg' := hrow'.lt
        have hl' : d'.length = n := Kd.C_len hC3
        have HA := Lib.hid (all_c A2 n c2 d' g W3 hrow2 hC2' (by omega))
        rw [hl'] at HA
        obtain ⟨k1, hk1⟩ := sameS_refl (l := d') (by omega)
        have HL := Lib.hid hl'
        clear hrow hC2 hb3 hrow2 hC2' hl' lg
        go_wp2_with fail
        refine HA.out.mono ?_
        rintro en W4 ⟨A7, c7, rfl, hc7, hC7, hb4⟩
        have hB4 : Below w.heap.size w W4 := bk hB3 l3 hb4
        have hrow4 := hrow'.below hb4 lg'
        have hC4 := Kd.C_below hC3 hb4
        have HA2 := Lib.hid (all_c A3 n c3 d' g' W4 hrow4 hC4 (by omega))
        rw [HL.out] at HA2
        clear HA hrow' hC3 hB3 hb4 l3 lg' hrow4 hC4
        go_wp2_with fail
        refine HA2.out.mono ?_
        rintro en W5 ⟨A8, c8, rfl, hc8, hC8, hb5⟩
        have hB5 : Below w.heap.size w W5 := bk hB4 hB4.size hb5
        have hC9 := Kd.C_below hC7 hb5
        clear HA2 hC7 hB4 hb5
        have HS := Lib.hid (crierlaw05_same.calls k1 A7 c7 d' A8 c8 d' true W5 (by rw [HL.out]; exact hC9) (by rw [HL.out]; exact hc7) (by rw [HL.out]; exact hC8) (by rw [HL.out]; exact hc8) hk1)
        rw [HL.out] at HS
        clear hC9 hC8
        go_wp2_with fail
        refine HS.out.mono ?_
        rintro en W6 ⟨rfl, hb6⟩
        have hB6 : Below w.heap.size w W6 := bk hB5 hB5.size hb6.below
        clear HS hB5 hb6
        go_wp2
        go_ret
        exact ⟨rfl, hB6⟩
end Go.Proofs.Ytjkbocejdjnfiaa.Bs
