/- New: a bus of some spans. -/
import Derived.Test.YtjkbocejdjnfiaaB3
namespace Go.Proofs.Ytjkbocejdjnfiaa.Bs
open Go.RowKit Go.Shelf Go.Lib Go.Sort Go.Proofs.Ytjkbocejdjnfiaa.IAll Go.Proofs.YtjkbocejdjnfiaaW.PrintWords Go.Proofs.YtjkbocejdjnfiaaW.PrintLast Go.Proofs.YtjkbocejdjnfiaaW.PrintMore
attribute [local go_sem] Oper.semAt_some cell_row frozen_row isRow_setCell_eq rowAt_setCell_same rowAt_setCell_other isRow_alloc_eq rowAt_alloc rowAt_new rowAt_new' isRow_setRow_eq rowAt_setRow_same rowAt_setRow_other isRow_drew rowAt_drew size_setRow_ size_drew_ blk_ptr aggOf_agg below_alloc_e below_setCell_e below_setRow_e below_refl_e below_drew_r isRow_drewN rowAt_drewN below_drewN_e le_add_r asideP_alloc_e asideP_setCell_e asideP_setRow_e asideP_drew_e asideP_drewN_e asideP_refl_e cell_setRow_far cell_setCell_far cell_drew_ heap_setCell_far heap_setRow_far heap_drew_ ES_size ES_one ES_fold ES_0 ES_1 allOne_nil allOne_cons Value.oneCell'
attribute [local go_sem ↓] loadS storeS loadSg storeSg
/-- ascending by their addresses -/
def Srt (d : List Sp) : Prop := ∀ i j : Nat, i < j → j < d.length → (rd_T33 d i).f0 ≤ (rd_T33 d j).f0
/-- none begins ahead of its forerunner's end -/
def NoOvl (d : List Sp) : Prop := ∀ k : Nat, k + 1 < d.length → (rd_T33 d k).f0 + (rd_T33 d k).f1 ≤ (rd_T33 d ((k + 1 : Nat) : Int)).f0
theorem rd_mem {d : List Sp} {k : Nat} (h : k < d.length) : rd_T33 d k ∈ d := by
  have h3 : rd_T33 d k ∈ d.take k ++ rd_T33 d k :: d.drop (k + 1) := by simp
  rwa [← at_spl h] at h3
theorem rd_arr (d : Array Sp) (i : Nat) (h : i < d.size) : rd_T33 d.toList i = d[i]! := by
  rw [getElem!_pos d i h]
  simp [rd_T33, List.getD_eq_getElem?_getD, h]
theorem sort_c (A : Option Addr) (n c : Nat) (d : List Sp) (w : World) (hr : Kd.C k33 w A n d) (hO : 0 < n → ∃ ob, A = some ⟨ob, 0, none⟩ ∧ isRow w ob) (hb : n ≤ 4398046511104) :
    Calls Try.prog 24 #[.slice A n c, .func (.func 25) #[] #[]] w fun e w' => e = .returned (.tuple #[]) ∧ ∃ d' : List Sp, d'.Perm d ∧ Srt d' ∧ Kd.C k33 w' A n d' ∧ AsideP (fun k => 0 < n ∧ ∃ ad, A = some ad ∧ k = ad.block) w w' := by
  have hn : d.length = n := Kd.C_len hr
  subst hn
  rcases Nat.eq_zero_or_pos d.length with h0 | h0
  · obtain rfl : d = [] := List.length_eq_zero_iff.1 h0
    refine (Sort_none A c _ w).mono ?_
    rintro e w' ⟨rfl, rfl⟩
    exact ⟨rfl, [], List.Perm.refl _, (by intro i j _ hj; cases hj), hr, AsideP.of_below (Below.refl _ _)⟩
  · obtain ⟨ob, rfl, hrow⟩ := hO h0
    have hH := kd_holds hr hrow
    have hblk : ob < w.heap.size := hrow.lt
    have := Sort_c ob c d.toArray w hH hblk (by simp; omega)
    rw [List.size_toArray] at this
    refine this.mono ?_
    rintro e w' ⟨rfl, d', m, os, hp, hs, rfl⟩
    have hsz : d'.size = d.length := by have := hp.1; simpa using this
    refine ⟨rfl, d'.toList, ?_, ?_, ?_, ?_⟩
    · have h2 := hp.2.2
      rw [show d'.extract 0 d.length = d' by rw [← hsz]; simp, show d.toArray.extract 0 d.length = d.toArray by rw [← List.size_toArray]; simp] at h2
      exact h2
    · intro i j hij hj
      have hj' : j < d'.size := by simpa using hj
      have := hs i j (Nat.zero_le _) hij (by omega)
      rw [lt_is] at this
      rw [rd_arr d' i (by omega), rd_arr d' j hj']
      simpa using this
    · rw [← hsz]
      exact holds_kd (holdsK_sortWorldK_c EL 4 w ob 0 d.toArray d' m os hH hblk (by simpa using hsz)) (by omega)
    · have q := sort_aside (w := w) (blk := ob) (m := m) (dk := d') (os := os)
      exact ⟨q.os, q.tape, q.output, q.size, fun k hk hne => q.block k hk (fun e => hne ⟨h0, _, rfl, e⟩)⟩
def rightB (s : Sp) : Bool := (bus_right.f s.f0 s.f1 s.f2 s.f3).getD false
theorem right_is (s : Sp) : bus_right.f s.f0 s.f1 s.f2 s.f3 = some (rightB s) := by
  have : (bus_right.f s.f0 s.f1 s.f2 s.f3).isSome = true := by
    unfold bus_right.f
    repeat' split
    all_goals rfl
  obtain ⟨r, hr⟩ := Option.isSome_iff_exists.1 this
  rw [rightB, hr]; rfl
theorem right_c (s : Sp) (w : World) : Calls Try.prog 22 #[.agg (ES s)] w fun e w' => e = .returned (.bool (rightB s)) ∧ Below w.heap.size w w' :=
  bus_right.calls _ _ _ _ _ w (right_is s)
theorem right_rgt {s : Sp} (h : rightB s = true) : Rgt s ∧ 1 ≤ s.f2 ∧ s.f2 ≤ 4 ∧ 0 ≤ s.f3 := by
  have hs := right_is s
  rw [h] at hs
  unfold bus_right.f at hs
  split at hs
  · split at hs
    · split at hs
      · have e : wrap64 (1099511627776 - s.f1) = 1099511627776 - s.f1 := IntWalk.wrap64_in _ (by omega)
        rw [e] at hs
        split at hs
        · split at hs
          · split at hs
            · have h3 : 0 ≤ s.f3 := by simpa using hs
              exact ⟨⟨by omega, by omega, by unfold TOP; omega⟩, by omega, by omega, h3⟩
            · exact absurd hs (by decide)
          · exact absurd hs (by decide)
        · exact absurd hs (by decide)
      · exact absurd hs (by decide)
    · exact absurd hs (by decide)
  · exact absurd hs (by decide)
def newBad (d : List Sp) : Prop := 32 < d.length ∨ ∃ s ∈ d, rightB s = false
def NewOut (w w' : World) (n : Nat) (d : List Sp) (v : Value) (r : Int) : Prop :=
  (newBad d ∧ v = .pointer none ∧ r = 1) ∨
  (¬ newBad d ∧ ∃ d' : List Sp, d'.Perm d ∧ Srt d' ∧ ((¬ NoOvl d' ∧ v = .pointer none ∧ r = 50) ∨
    (NoOvl d' ∧ r = 0 ∧ ∃ g A' c', v = .pointer (some ⟨g, 0, none⟩) ∧ w.heap.size ≤ g ∧ Row w' g #[.slice A' n c'] ∧ n ≤ c' ∧ Kd.C k33 w' A' n d' ∧ (0 < n → ∃ ob, A' = some ⟨ob, 0, none⟩ ∧ w.heap.size ≤ ob ∧ ¬ ob = g))))
theorem kd_at {w w' : World} {A : Option Addr} {n : Nat} {d : List Sp} {P : Nat → Prop} (h : Kd.C k33 w A n d) (a : AsideP P w w') (hf : ∀ ad, A = some ad → 0 < n → ad.block < w.heap.size ∧ ¬ P ad.block) : Kd.C k33 w' A n d :=
  ⟨h.1, h.2.1, fun hn => by
    obtain ⟨ad, e, hq⟩ := h.2.2 hn
    obtain ⟨f1, f2⟩ := hf ad e hn
    refine ⟨ad, e, fun j p hp => ?_⟩
    obtain ⟨c, hc, hK, hcell⟩ := hq j p hp
    refine ⟨c, hc, by rw [k33_open hK]; exact k33_mk w' p, fun i u hu => ?_⟩
    refine (World.cell?_of_block ?_).trans (hcell i u hu)
    rw [add_block]
    exact a.block _ f1 f2⟩
set_option maxRecDepth 100000 in
set_option maxHeartbeats 4000000 in
theorem New_c (A : Option Addr) (n c : Nat) (d : List Sp) (w : World) (hr : Kd.C k33 w A n d) :
    Calls Try.prog 10 #[.slice A n c] w fun e w' => ∃ v r, e = .returned (.tuple #[v, .int .i64 r]) ∧ Below w.heap.size w w' ∧ NewOut w w' n d v r := by
  have hn : d.length = n := Kd.C_len hr
  have hmx := Kd.C_max hr
  have hA : ∀ ad, A = some ad → 0 < n → ad.block < w.heap.size := by
    rintro ad rfl h0
    exact Kd.C_lt hr h0 (by decide)
  by_cases h32 : 32 < n
  · have e1 : decide ((32 : Int) < n) = true := decide_eq_true (by omega)
    go_enter Try.func10, Try.ntmps10
    go_wp2
    refine bodyPost_ret (results_tmp2 rfl _ _ _) rfl ?_
    exact ⟨_, _, rfl, Below.refl _ _, .inl ⟨.inl (by omega), rfl, rfl⟩⟩
  · have e1 : decide ((32 : Int) < n) = false := decide_eq_false (by omega)
    have HR := Lib.hid hr
    clear hr
    go_enter Try.func10, Try.ntmps10
    go_wp2
    go_loopw [13] (fun q wr => ∃ k : Nat, k ≤ n ∧ q = .int .i64 k ∧ Below w.heap.size w wr ∧ (∀ y ∈ d.take k, rightB y = true)) (fun q _ => n - (intOf q).toNat)
    case atStart => exact ⟨0, by omega, rfl, Below.refl _ _, by simp⟩
    case round =>
      obtain ⟨k, hk, rfl, hB, hall⟩ := hrel
      by_cases hlt : k < n
      · have k1 : (k : Int) < n := by omega
        have k0 : (0 : Int) ≤ k := by omega
        obtain ⟨ad, e, hx0, hx1, hx2, hx3⟩ := at_T33 (Kd.C_below HR.out hB) (k : Int) k0 k1
        cases e
        rw [Int.toNat_natCast] at hx0 hx1 hx2 hx3
        have hrg := right_c (rd_T33 d k)
        have HS := Lib.hid (take_next (d := d) (k := k) (by omega))
        have lB := hB.size
        cases hb : rightB (rd_T33 d k) with
        | true =>
          rw [hb] at hrg
          have HG := Lib.hid hrg
          clear hrg
          go_wp2_with (refine (HG.out _).mono ?_; rintro e W3 ⟨rfl, hb3⟩; have hb4 := Lib.hid hb3; clear hb3)
          go_roundw
          case rel =>
            refine ⟨k + 1, by omega, congrArg (Value.int .i64) (by omega), bk (below_setRow (hB.alloc lB _) lB _) (by simp; omega) hb4.out, ?_⟩
            rw [HS.out]
            intro y hy
            rcases List.mem_append.1 hy with h | h
            · exact hall y h
            · rw [List.mem_singleton] at h; rw [h]; exact hb
          case measure => simp [intOf]; omega
        | false =>
          rw [hb] at hrg
          have HG := Lib.hid hrg
          clear hrg
          go_wp2_with (refine (HG.out _).mono ?_; rintro e W3 ⟨rfl, hb3⟩; have hb4 := Lib.hid hb3; clear hb3)
          refine bodyPost_ret (results_tmp2 rfl _ _ _) rfl ?_
          refine ⟨_, _, rfl, bk (below_setRow (hB.alloc lB _) lB _) (by simp; omega) hb4.out, .inl ⟨.inr ⟨_, ?_, hb⟩, rfl, rfl⟩⟩
          have h2 := at_spl (d := d) (k := k) (by omega)
          have h3 : rd_T33 d k ∈ d.take k ++ rd_T33 d k :: d.drop (k + 1) := by simp
          rwa [← h2] at h3
      · obtain rfl : n = k := by omega
        rw [List.take_of_length_le (by omega)] at hall
        have hnb : ¬ newBad d := by
          rintro (h | ⟨s, hs, h⟩)
          · omega
          · rw [hall s hs] at h; cases h
        have HNB := Lib.hid hnb
        clear hnb
        have lB := hB.size
        have HCl := Lib.hid (fun W h => clone_c A n c d W h (by omega))
        go_wp2_with fail
        refine (HCl.out _ (Kd.C_below HR.out hB)).mono ?_
        rintro e W3 ⟨A', c', rfl, hc', hC3, hO3, hb3⟩
        have hB3 : RowKit.Below w.heap.size w W3 := bk hB lB hb3
        have l3 := hb3.size
        have l3a : w.heap.size ≤ W3.heap.size := hB3.size
        clear hb3 hB hall
        have hg3 : Row (W3.alloc (.cells #[.slice A' n c'] 53)) W3.heap.size #[.slice A' n c'] := ⟨by go_simp, by go_simp⟩
        have hC4 := Kd.C_alloc hC3 (.cells #[.slice A' n c'] 53)
        have hO4 : 0 < n → ∃ ob, A' = some ⟨ob, 0, none⟩ ∧ isRow (W3.alloc (.cells #[.slice A' n c'] 53)) ob := fun h => by
          obtain ⟨ob, e, h1, h2⟩ := hO3 h
          exact ⟨ob, e, isRow_alloc h2⟩
        have HS := Lib.hid (sort_c A' n c' d _ hC4 hO4 (by omega))
        obtain ⟨g1, g1'⟩ := hg3
        clear hC4 hO4
        go_wp2_with fail
        refine HS.out.mono ?_
        rintro e W5 ⟨rfl, d', hperm, hsrt, hC5, ha5⟩
        have hlt3 : ∀ ob, 0 < n → A' = some ⟨ob, 0, none⟩ → w.heap.size ≤ ob ∧ ob < W3.heap.size := by
          intro ob h e
          obtain ⟨ob2, e2, h1, h2⟩ := hO3 h
          rw [e] at e2
          cases e2
          exact ⟨by omega, h2.lt⟩
        obtain ⟨g5, g5'⟩ : Row W5 W3.heap.size #[.slice A' n c'] := ha5.row ⟨g1, g1'⟩ (by
          rintro ⟨h, ad, e, he⟩
          obtain ⟨ob, e1, -, -⟩ := hO3 h
          rw [e1] at e; cases e
          have := hlt3 ob h e1
          simp only at he
          omega)
        have hB5 : RowKit.Below w.heap.size w W5 := ha5.below (hB3.alloc (by omega) _) (by
          rintro k ⟨h, ad, e, he⟩
          obtain ⟨ob, e1, -, -⟩ := hO3 h
          rw [e1] at e; cases e
          have := hlt3 ob h e1
          simp only at he
          omega) (by simp; omega)
        have hn' : d'.length = n := hperm.length_eq.trans hn
        have hD' : ∀ y ∈ d', Rgt y := fun y hy => by
          have hy' := hperm.mem_iff.1 hy
          refine (right_rgt ?_).1
          cases h : rightB y with
          | true => rfl
          | false => exact absurd (.inr ⟨y, hy', h⟩) HNB.out
        have l5 := hB5.size
        have HO3 := Lib.hid hlt3
        have hOk : 0 < n → ∃ ob, A' = some ⟨ob, 0, none⟩ := fun h => by obtain ⟨ob, e, -, -⟩ := hO3 h; exact ⟨ob, e⟩
        clear hC3 hO3 ha5 hlt3 hB3 g1 g1' HS HCl
        go_wp2_with fail
        go_loopw [7] (fun q wr => ∃ k : Nat, k + 1 ≤ n + 1 ∧ q = .int .i64 ((k + 1 : Nat) : Int) ∧ AsideP (fun _ => False) W5 wr ∧ (∀ i : Nat, i < k → i + 1 < n → (rd_T33 d' i).f0 + (rd_T33 d' i).f1 ≤ (rd_T33 d' ((i + 1 : Nat) : Int)).f0)) (fun q _ => n + 1 - (intOf q).toNat)
        case atStart => exact ⟨0, by omega, rfl, .of_below (Below.refl _ _), fun i h => by omega⟩
        case round =>
          obtain ⟨k, hk, rfl, hX, hov⟩ := hrel
          obtain ⟨y1, y1'⟩ := hX.row ⟨g5, g5'⟩ (fun h => h)
          clear g5 g5'
          by_cases hlt2 : k + 1 < n
          · have k1 : ((k + 1 : Nat) : Int) < n := by omega
            have k0 : (0 : Int) ≤ ((k + 1 : Nat) : Int) := by omega
            have j1 : (k : Int) < n := by omega
            have j0 : (0 : Int) ≤ (k : Int) := by omega
            have hCw : Kd.C k33 wr A' n d' := ⟨hC5.1, hC5.2.1, (Kd.C_below hC5 ⟨hX.os, hX.tape, hX.output, hX.size, fun i hi => hX.block i hi (fun h => h)⟩).2.2⟩
            obtain ⟨ad, e, hx0, hx1, hx2, hx3⟩ := at_T33 hCw ((k : Int) + 1) (by omega) (by omega)
            obtain ⟨ad2, e2, hz0, hz1, hz2, hz3⟩ := at_T33 hCw (k : Int) j0 j1
            cases e
            cases e2
            rw [Int.toNat_natCast] at hz0 hz1 hz2 hz3
            rw [show ((k : Int) + 1).toNat = k + 1 by omega] at hx0
            clear hx1 hx2 hx3 hz2 hz3 hCw
            have hc : ((k + 1 : Nat) : Int) = (k : Int) + 1 := by omega
            have k1' : (k : Int) + 1 < n := by omega
            have k0' : (0 : Int) ≤ (k : Int) + 1 := by omega
            have ht : ((k : Int) + 1).toNat = k + 1 := by omega
            have hwk : IntKind.i64.wrap (k : Int) = k := IntWalk.i64_in _ (by omega)
            have hwk' : IntKind.i64.wrap ((k : Int) + 1 - 1) = k := by rw [show (k : Int) + 1 - 1 = k by omega]; exact hwk
            have hm1 := hD' (rd_T33 d' k) (rd_mem (by omega))
            obtain ⟨r0, r1, r2⟩ := hm1
            have hws : IntKind.i64.wrap ((rd_T33 d' k).f0 + (rd_T33 d' k).f1) = (rd_T33 d' k).f0 + (rd_T33 d' k).f1 := IntWalk.i64_in _ (by unfold TOP at r2; omega)
            have HOV := Lib.hid hov
            have HD := Lib.hid hD'
            clear hov hD'
            by_cases ho : (rd_T33 d' ((k : Int) + 1)).f0 < (rd_T33 d' k).f0 + (rd_T33 d' k).f1
            · have ho' := decide_eq_true ho
              have HO := Lib.hid ho
              clear ho
              go_wp2_with fail
              refine wp_named (fun W_ => (isRow W_ W3.heap.size ∧ rowAt W_ W3.heap.size = #[.slice (some ad) n c']) ∧ W_.cell? (ad.add ((k + 1) * 4)) = some (.int .i64 (rd_T33 d' ((k : Int) + 1)).f0) ∧ W_.cell? (ad.add (k * 4)) = some (.int .i64 (rd_T33 d' k).f0) ∧ W_.cell? { block := (ad.add (k * 4)).block, off := (ad.add (k * 4)).off + 1 } = some (.int .i64 (rd_T33 d' k).f1) ∧ AsideP (fun _ => False) W5 W_) (by refine ⟨⟨by go_simp, by go_simp⟩, by first | assumption | (go_simp; done) | exact hx0, by first | assumption | (go_simp; done) | exact hz0, by first | assumption | (go_simp; done) | exact hz1, by go_simp⟩) ?_
              rintro v1 ⟨⟨G_1, G_1'⟩, al0_1, al1_1, al2_1, hB_1⟩
              clear y1 y1' hX hx0 hz0 hz1
              have hz_1 : W5.heap.size ≤ v1.heap.size := hB_1.size
              have hl_G_1 := isRow.lt G_1
              have ne_G_1_0 : ¬ W3.heap.size = v1.heap.size := by omega
              have en_G_1_0 : ¬ v1.heap.size = W3.heap.size := by omega
              refine wp_region_held_drew (S := fun w' => (isRow w' W3.heap.size ∧ rowAt w' W3.heap.size = #[.slice (some ad) n c']) ∧ w'.cell? (ad.add ((k + 1) * 4)) = some (.int .i64 (rd_T33 d' ((k : Int) + 1)).f0) ∧ w'.cell? (ad.add (k * 4)) = some (.int .i64 (rd_T33 d' k).f0) ∧ w'.cell? { block := (ad.add (k * 4)).block, off := (ad.add (k * 4)).off + 1 } = some (.int .i64 (rd_T33 d' k).f1) ∧ AsideP (fun _ => False) W5 w') (by kernel_rfl) ⟨⟨by go_simp, by go_simp⟩, by first | exact al0_1 | (go_simp; done), by first | exact al1_1 | (go_simp; done), by first | exact al2_1 | (go_simp; done), by go_simp⟩ (fun hHeld => ?_)
              refine wpAnyH_take (i := 0) (oi := ⟨some 39, .move (.tmp 6), 24, "bus.go:34", #[], none⟩) (v := ?_) rfl (by kernel_rfl) (by kernel_rfl) (by kernel_rfl) (fun _ _ _ h => h) (Or.inl ⟨by rfl, ?_⟩) (by assumption) ?_
              rotate_left
              · (intro w_ hS_; (try dsimp only at hS_); go_simp; try with_reducible rfl)
              try simp only [Act.put, List.setIfInBounds_toArray, List.set_cons_zero, List.set_cons_succ]
              refine wpAnyH_take (i := 1) (oi := ⟨some 40, .nilCheck (.tmp 39), 0, "bus.go:34", #[⟨0, .data⟩], none⟩) (v := ?_) rfl (by kernel_rfl) (by kernel_rfl) (by kernel_rfl) (fun _ _ _ h => h) (Or.inl ⟨by rfl, ?_⟩) (by assumption) ?_
              rotate_left
              · (intro w_ hS_; (try dsimp only at hS_); go_simp; try with_reducible rfl)
              try simp only [Act.put, List.setIfInBounds_toArray, List.set_cons_zero, List.set_cons_succ]
              refine wpAnyH_take (i := 2) (oi := ⟨some 41, .fieldAddr 53 (.tmp 40) 0, 0, "bus.go:34", #[⟨1, .data⟩], none⟩) (v := ?_) rfl (by kernel_rfl) (by kernel_rfl) (by kernel_rfl) (fun _ _ _ h => h) (Or.inl ⟨by rfl, ?_⟩) (by assumption) ?_
              rotate_left
              · (intro w_ hS_; (try dsimp only at hS_); go_simp; try with_reducible rfl)
              try simp only [Act.put, List.setIfInBounds_toArray, List.set_cons_zero, List.set_cons_succ]
              refine wpAnyH_take (i := 3) (oi := ⟨some 42, .load 22 (.tmp 41), 22, "bus.go:34", #[⟨2, .data⟩], none⟩) (v := ?_) rfl (by kernel_rfl) (by kernel_rfl) (by kernel_rfl) (fun _ _ _ h => h) (Or.inl ⟨by rfl, ?_⟩) (by assumption) ?_
              rotate_left
              · (intro w_ hS_; (try dsimp only at hS_); go_simp; try with_reducible rfl)
              try simp only [Act.put, List.setIfInBounds_toArray, List.set_cons_zero, List.set_cons_succ]
              refine wpAnyH_take (i := 4) (oi := ⟨some 43, .move (.tmp 7), 3, "bus.go:34", #[], none⟩) (v := ?_) rfl (by kernel_rfl) (by kernel_rfl) (by kernel_rfl) (fun _ _ _ h => h) (Or.inl ⟨by rfl, ?_⟩) (by assumption) ?_
              rotate_left
              · (intro w_ hS_; (try dsimp only at hS_); go_simp; try with_reducible rfl)
              try simp only [Act.put, List.setIfInBounds_toArray, List.set_cons_zero, List.set_cons_succ]
              refine wpAnyH_take (i := 5) (oi := ⟨some 44, .indexAddr 22 (.tmp 42) (.tmp 43), 0, "bus.go:34", #[⟨3, .data⟩, ⟨4, .data⟩], none⟩) (v := ?_) rfl (by kernel_rfl) (by kernel_rfl) (by kernel_rfl) (fun _ _ _ h => h) (Or.inl ⟨by rfl, ?_⟩) (by assumption) ?_
              rotate_left
              · (intro w_ hS_; (try dsimp only at hS_); go_simp; try with_reducible rfl)
              try simp only [Act.put, List.setIfInBounds_toArray, List.set_cons_zero, List.set_cons_succ]
              refine wpAnyH_take (i := 6) (oi := ⟨some 45, .fieldAddr 33 (.tmp 44) 0, 0, "bus.go:34", #[⟨5, .data⟩], none⟩) (v := ?_) rfl (by kernel_rfl) (by kernel_rfl) (by kernel_rfl) (fun _ _ _ h => h) (Or.inl ⟨by rfl, ?_⟩) (by assumption) ?_
              rotate_left
              · (intro w_ hS_; (try dsimp only at hS_); go_simp; try with_reducible rfl)
              try simp only [Act.put, List.setIfInBounds_toArray, List.set_cons_zero, List.set_cons_succ]
              refine wpAnyH_take (i := 7) (oi := ⟨some 46, .load 3 (.tmp 45), 3, "bus.go:34", #[⟨6, .data⟩], none⟩) (v := ?_) rfl (by kernel_rfl) (by kernel_rfl) (by kernel_rfl) (fun _ _ _ h => h) (Or.inl ⟨by rfl, ?_⟩) (by assumption) ?_
              rotate_left
              · (intro w_ hS_; (try dsimp only at hS_); go_simp; try with_reducible rfl)
              try simp only [Act.put, List.setIfInBounds_toArray, List.set_cons_zero, List.set_cons_succ]
              refine wpAnyH_take (i := 8) (oi := ⟨some 47, .move (.tmp 6), 24, "bus.go:34", #[], none⟩) (v := ?_) rfl (by kernel_rfl) (by kernel_rfl) (by kernel_rfl) (fun _ _ _ h => h) (Or.inl ⟨by rfl, ?_⟩) (by assumption) ?_
              rotate_left
              · (intro w_ hS_; (try dsimp only at hS_); go_simp; try with_reducible rfl)
              try simp only [Act.put, List.setIfInBounds_toArray, List.set_cons_zero, List.set_cons_succ]
              refine wpAnyH_take (i := 9) (oi := ⟨some 48, .nilCheck (.tmp 47), 0, "bus.go:34", #[⟨8, .data⟩], none⟩) (v := ?_) rfl (by kernel_rfl) (by kernel_rfl) (by kernel_rfl) (fun _ _ _ h => h) (Or.inl ⟨by rfl, ?_⟩) (by assumption) ?_
              rotate_left
              · (intro w_ hS_; (try dsimp only at hS_); go_simp; try with_reducible rfl)
              try simp only [Act.put, List.setIfInBounds_toArray, List.set_cons_zero, List.set_cons_succ]
              refine wpAnyH_take (i := 10) (oi := ⟨some 49, .fieldAddr 53 (.tmp 48) 0, 0, "bus.go:34", #[⟨9, .data⟩], none⟩) (v := ?_) rfl (by kernel_rfl) (by kernel_rfl) (by kernel_rfl) (fun _ _ _ h => h) (Or.inl ⟨by rfl, ?_⟩) (by assumption) ?_
              rotate_left
              · (intro w_ hS_; (try dsimp only at hS_); go_simp; try with_reducible rfl)
              try simp only [Act.put, List.setIfInBounds_toArray, List.set_cons_zero, List.set_cons_succ]
              refine wpAnyH_take (i := 11) (oi := ⟨some 50, .load 22 (.tmp 49), 22, "bus.go:34", #[⟨10, .data⟩], none⟩) (v := ?_) rfl (by kernel_rfl) (by kernel_rfl) (by kernel_rfl) (fun _ _ _ h => h) (Or.inl ⟨by rfl, ?_⟩) (by assumption) ?_
              rotate_left
              · (intro w_ hS_; (try dsimp only at hS_); go_simp; try with_reducible rfl)
              try simp only [Act.put, List.setIfInBounds_toArray, List.set_cons_zero, List.set_cons_succ]
              refine wpAnyH_take (i := 12) (oi := ⟨some 51, .move (.tmp 7), 3, "bus.go:34", #[], none⟩) (v := ?_) rfl (by kernel_rfl) (by kernel_rfl) (by kernel_rfl) (fun _ _ _ h => h) (Or.inl ⟨by rfl, ?_⟩) (by assumption) ?_
              rotate_left
              · (intro w_ hS_; (try dsimp only at hS_); go_simp; try with_reducible rfl)
              try simp only [Act.put, List.setIfInBounds_toArray, List.set_cons_zero, List.set_cons_succ]
              refine wpAnyH_take (i := 13) (oi := ⟨some 52, .binOp .sub 3 (.tmp 51) (.const (.int .i64 1)) 3, 3, "bus.go:34", #[⟨12, .data⟩], none⟩) (v := ?_) rfl (by kernel_rfl) (by kernel_rfl) (by kernel_rfl) (fun _ _ _ h => h) (Or.inl ⟨by rfl, ?_⟩) (by assumption) ?_
              rotate_left
              · (intro w_ hS_; (try dsimp only at hS_); go_simp; try with_reducible rfl)
              try simp only [Act.put, List.setIfInBounds_toArray, List.set_cons_zero, List.set_cons_succ]
              refine wpAnyH_take (i := 14) (oi := ⟨some 53, .indexAddr 22 (.tmp 50) (.tmp 52), 0, "bus.go:34", #[⟨11, .data⟩, ⟨13, .data⟩], none⟩) (v := ?_) rfl (by kernel_rfl) (by kernel_rfl) (by kernel_rfl) (fun _ _ _ h => h) (Or.inl ⟨by rfl, ?_⟩) (by assumption) ?_
              rotate_left
              · (intro w_ hS_; (try dsimp only at hS_); go_simp; try with_reducible rfl)
              try simp only [Act.put, List.setIfInBounds_toArray, List.set_cons_zero, List.set_cons_succ]
              refine wpAnyH_take (i := 15) (oi := ⟨some 54, .fieldAddr 33 (.tmp 53) 0, 0, "bus.go:34", #[⟨14, .data⟩], none⟩) (v := ?_) rfl (by kernel_rfl) (by kernel_rfl) (by kernel_rfl) (fun _ _ _ h => h) (Or.inl ⟨by rfl, ?_⟩) (by assumption) ?_
              rotate_left
              · (intro w_ hS_; (try dsimp only at hS_); go_simp; try with_reducible rfl)
              try simp only [Act.put, List.setIfInBounds_toArray, List.set_cons_zero, List.set_cons_succ]
              refine wpAnyH_take (i := 16) (oi := ⟨some 55, .load 3 (.tmp 54), 3, "bus.go:34", #[⟨15, .data⟩], none⟩) (v := ?_) rfl (by kernel_rfl) (by kernel_rfl) (by kernel_rfl) (fun _ _ _ h => h) (Or.inl ⟨by rfl, ?_⟩) (by assumption) ?_
              rotate_left
              · (intro w_ hS_; (try dsimp only at hS_); go_simp; try with_reducible rfl)
              try simp only [Act.put, List.setIfInBounds_toArray, List.set_cons_zero, List.set_cons_succ]
              refine wpAnyH_take (i := 17) (oi := ⟨some 56, .move (.tmp 6), 24, "bus.go:34", #[], none⟩) (v := ?_) rfl (by kernel_rfl) (by kernel_rfl) (by kernel_rfl) (fun _ _ _ h => h) (Or.inl ⟨by rfl, ?_⟩) (by assumption) ?_
              rotate_left
              · (intro w_ hS_; (try dsimp only at hS_); go_simp; try with_reducible rfl)
              try simp only [Act.put, List.setIfInBounds_toArray, List.set_cons_zero, List.set_cons_succ]
              refine wpAnyH_take (i := 18) (oi := ⟨some 57, .nilCheck (.tmp 56), 0, "bus.go:34", #[⟨17, .data⟩], none⟩) (v := ?_) rfl (by kernel_rfl) (by kernel_rfl) (by kernel_rfl) (fun _ _ _ h => h) (Or.inl ⟨by rfl, ?_⟩) (by assumption) ?_
              rotate_left
              · (intro w_ hS_; (try dsimp only at hS_); go_simp; try with_reducible rfl)
              try simp only [Act.put, List.setIfInBounds_toArray, List.set_cons_zero, List.set_cons_succ]
              refine wpAnyH_take (i := 19) (oi := ⟨some 58, .fieldAddr 53 (.tmp 57) 0, 0, "bus.go:34", #[⟨18, .data⟩], none⟩) (v := ?_) rfl (by kernel_rfl) (by kernel_rfl) (by kernel_rfl) (fun _ _ _ h => h) (Or.inl ⟨by rfl, ?_⟩) (by assumption) ?_
              rotate_left
              · (intro w_ hS_; (try dsimp only at hS_); go_simp; try with_reducible rfl)
              try simp only [Act.put, List.setIfInBounds_toArray, List.set_cons_zero, List.set_cons_succ]
              refine wpAnyH_take (i := 20) (oi := ⟨some 59, .load 22 (.tmp 58), 22, "bus.go:34", #[⟨19, .data⟩], none⟩) (v := ?_) rfl (by kernel_rfl) (by kernel_rfl) (by kernel_rfl) (fun _ _ _ h => h) (Or.inl ⟨by rfl, ?_⟩) (by assumption) ?_
              rotate_left
              · (intro w_ hS_; (try dsimp only at hS_); go_simp; try with_reducible rfl)
              try simp only [Act.put, List.setIfInBounds_toArray, List.set_cons_zero, List.set_cons_succ]
              refine wpAnyH_take (i := 21) (oi := ⟨some 60, .move (.tmp 7), 3, "bus.go:34", #[], none⟩) (v := ?_) rfl (by kernel_rfl) (by kernel_rfl) (by kernel_rfl) (fun _ _ _ h => h) (Or.inl ⟨by rfl, ?_⟩) (by assumption) ?_
              rotate_left
              · (intro w_ hS_; (try dsimp only at hS_); go_simp; try with_reducible rfl)
              try simp only [Act.put, List.setIfInBounds_toArray, List.set_cons_zero, List.set_cons_succ]
              refine wpAnyH_take (i := 22) (oi := ⟨some 61, .binOp .sub 3 (.tmp 60) (.const (.int .i64 1)) 3, 3, "bus.go:34", #[⟨21, .data⟩], none⟩) (v := ?_) rfl (by kernel_rfl) (by kernel_rfl) (by kernel_rfl) (fun _ _ _ h => h) (Or.inl ⟨by rfl, ?_⟩) (by assumption) ?_
              rotate_left
              · (intro w_ hS_; (try dsimp only at hS_); go_simp; try with_reducible rfl)
              try simp only [Act.put, List.setIfInBounds_toArray, List.set_cons_zero, List.set_cons_succ]
              refine wpAnyH_take (i := 23) (oi := ⟨some 62, .indexAddr 22 (.tmp 59) (.tmp 61), 0, "bus.go:34", #[⟨20, .data⟩, ⟨22, .data⟩], none⟩) (v := ?_) rfl (by kernel_rfl) (by kernel_rfl) (by kernel_rfl) (fun _ _ _ h => h) (Or.inl ⟨by rfl, ?_⟩) (by assumption) ?_
              rotate_left
              · (intro w_ hS_; (try dsimp only at hS_); go_simp; try with_reducible rfl)
              try simp only [Act.put, List.setIfInBounds_toArray, List.set_cons_zero, List.set_cons_succ]
              refine wpAnyH_take (i := 24) (oi := ⟨some 63, .fieldAddr 33 (.tmp 62) 1, 0, "bus.go:34", #[⟨23, .data⟩], none⟩) (v := ?_) rfl (by kernel_rfl) (by kernel_rfl) (by kernel_rfl) (fun _ _ _ h => h) (Or.inl ⟨by rfl, ?_⟩) (by assumption) ?_
              rotate_left
              · (intro w_ hS_; (try dsimp only at hS_); go_simp; try with_reducible rfl)
              try simp only [Act.put, List.setIfInBounds_toArray, List.set_cons_zero, List.set_cons_succ]
              refine wpAnyH_take (i := 25) (oi := ⟨some 64, .load 3 (.tmp 63), 3, "bus.go:34", #[⟨24, .data⟩], none⟩) (v := ?_) rfl (by kernel_rfl) (by kernel_rfl) (by kernel_rfl) (fun _ _ _ h => h) (Or.inl ⟨by rfl, ?_⟩) (by assumption) ?_
              rotate_left
              · (intro w_ hS_; (try dsimp only at hS_); go_simp; try with_reducible rfl)
              try simp only [Act.put, List.setIfInBounds_toArray, List.set_cons_zero, List.set_cons_succ]
              refine wpAnyH_take (i := 26) (oi := ⟨some 65, .binOp .add 3 (.tmp 55) (.tmp 64) 3, 3, "bus.go:34", #[⟨16, .data⟩, ⟨25, .data⟩], none⟩) (v := ?_) rfl (by kernel_rfl) (by kernel_rfl) (by kernel_rfl) (fun _ _ _ h => h) (Or.inl ⟨by rfl, ?_⟩) (by assumption) ?_
              rotate_left
              · (intro w_ hS_; (try dsimp only at hS_); go_simp; try with_reducible rfl)
              try simp only [Act.put, List.setIfInBounds_toArray, List.set_cons_zero, List.set_cons_succ]
              refine wpAnyH_take (i := 27) (oi := ⟨some 66, .binOp .lss 3 (.tmp 46) (.tmp 65) 3, 4, "bus.go:34", #[⟨7, .data⟩, ⟨26, .data⟩], none⟩) (v := ?_) rfl (by kernel_rfl) (by kernel_rfl) (by kernel_rfl) (fun _ _ _ h => h) (Or.inl ⟨by rfl, ?_⟩) (by assumption) ?_
              rotate_left
              · (intro w_ hS_; (try dsimp only at hS_); go_simp; try with_reducible rfl)
              try simp only [Act.put, List.setIfInBounds_toArray, List.set_cons_zero, List.set_cons_succ]
              refine wpAnyH_done (by kernel_rfl) ?_ _
              (try dsimp only at hHeld)
              go_split_ands
              go_wp2
              refine bodyPost_ret (results_tmp2 rfl _ _ _) rfl ?_
              refine ⟨_, _, rfl, AsideP.below (P := fun _ => False) (by assumption) hB5 (fun _ h => h.elim) l5, .inr ⟨HNB.out, d', hperm, hsrt, .inl ⟨fun h => ?_, rfl, rfl⟩⟩⟩
              have h1 := h k (by omega)
              rw [hc] at h1
              have := HO.out
              omega
            · have ho' := decide_eq_false ho
              have HO := Lib.hid ho
              clear ho
              go_wp2_with fail
              refine wp_named (fun W_ => (isRow W_ W3.heap.size ∧ rowAt W_ W3.heap.size = #[.slice (some ad) n c']) ∧ W_.cell? (ad.add ((k + 1) * 4)) = some (.int .i64 (rd_T33 d' ((k : Int) + 1)).f0) ∧ W_.cell? (ad.add (k * 4)) = some (.int .i64 (rd_T33 d' k).f0) ∧ W_.cell? { block := (ad.add (k * 4)).block, off := (ad.add (k * 4)).off + 1 } = some (.int .i64 (rd_T33 d' k).f1) ∧ AsideP (fun _ => False) W5 W_) (by refine ⟨⟨by go_simp, by go_simp⟩, by first | assumption | (go_simp; done) | exact hx0, by first | assumption | (go_simp; done) | exact hz0, by first | assumption | (go_simp; done) | exact hz1, by go_simp⟩) ?_
              rintro v1 ⟨⟨G_1, G_1'⟩, al0_1, al1_1, al2_1, hB_1⟩
              clear y1 y1' hX hx0 hz0 hz1
              have hz_1 : W5.heap.size ≤ v1.heap.size := hB_1.size
              have hl_G_1 := isRow.lt G_1
              have ne_G_1_0 : ¬ W3.heap.size = v1.heap.size := by omega
              have en_G_1_0 : ¬ v1.heap.size = W3.heap.size := by omega
              refine wp_region_held_drew (S := fun w' => (isRow w' W3.heap.size ∧ rowAt w' W3.heap.size = #[.slice (some ad) n c']) ∧ w'.cell? (ad.add ((k + 1) * 4)) = some (.int .i64 (rd_T33 d' ((k : Int) + 1)).f0) ∧ w'.cell? (ad.add (k * 4)) = some (.int .i64 (rd_T33 d' k).f0) ∧ w'.cell? { block := (ad.add (k * 4)).block, off := (ad.add (k * 4)).off + 1 } = some (.int .i64 (rd_T33 d' k).f1) ∧ AsideP (fun _ => False) W5 w') (by kernel_rfl) ⟨⟨by go_simp, by go_simp⟩, by first | exact al0_1 | (go_simp; done), by first | exact al1_1 | (go_simp; done), by first | exact al2_1 | (go_simp; done), by go_simp⟩ (fun hHeld => ?_)
              refine wpAnyH_take (i := 0) (oi := ⟨some 39, .move (.tmp 6), 24, "bus.go:34", #[], none⟩) (v := ?_) rfl (by kernel_rfl) (by kernel_rfl) (by kernel_rfl) (fun _ _ _ h => h) (Or.inl ⟨by rfl, ?_⟩) (by assumption) ?_
              rotate_left
              · (intro w_ hS_; (try dsimp only at hS_); go_simp; try with_reducible rfl)
              try simp only [Act.put, List.setIfInBounds_toArray, List.set_cons_zero, List.set_cons_succ]
              refine wpAnyH_take (i := 1) (oi := ⟨some 40, .nilCheck (.tmp 39), 0, "bus.go:34", #[⟨0, .data⟩], none⟩) (v := ?_) rfl (by kernel_rfl) (by kernel_rfl) (by kernel_rfl) (fun _ _ _ h => h) (Or.inl ⟨by rfl, ?_⟩) (by assumption) ?_
              rotate_left
              · (intro w_ hS_; (try dsimp only at hS_); go_simp; try with_reducible rfl)
              try simp only [Act.put, List.setIfInBounds_toArray, List.set_cons_zero, List.set_cons_succ]
              refine wpAnyH_take (i := 2) (oi := ⟨some 41, .fieldAddr 53 (.tmp 40) 0, 0, "bus.go:34", #[⟨1, .data⟩], none⟩) (v := ?_) rfl (by kernel_rfl) (by kernel_rfl) (by kernel_rfl) (fun _ _ _ h => h) (Or.inl ⟨by rfl, ?_⟩) (by assumption) ?_
              rotate_left
              · (intro w_ hS_; (try dsimp only at hS_); go_simp; try with_reducible rfl)
              try simp only [Act.put, List.setIfInBounds_toArray, List.set_cons_zero, List.set_cons_succ]
              refine wpAnyH_take (i := 3) (oi := ⟨some 42, .load 22 (.tmp 41), 22, "bus.go:34", #[⟨2, .data⟩], none⟩) (v := ?_) rfl (by kernel_rfl) (by kernel_rfl) (by kernel_rfl) (fun _ _ _ h => h) (Or.inl ⟨by rfl, ?_⟩) (by assumption) ?_
              rotate_left
              · (intro w_ hS_; (try dsimp only at hS_); go_simp; try with_reducible rfl)
              try simp only [Act.put, List.setIfInBounds_toArray, List.set_cons_zero, List.set_cons_succ]
              refine wpAnyH_take (i := 4) (oi := ⟨some 43, .move (.tmp 7), 3, "bus.go:34", #[], none⟩) (v := ?_) rfl (by kernel_rfl) (by kernel_rfl) (by kernel_rfl) (fun _ _ _ h => h) (Or.inl ⟨by rfl, ?_⟩) (by assumption) ?_
              rotate_left
              · (intro w_ hS_; (try dsimp only at hS_); go_simp; try with_reducible rfl)
              try simp only [Act.put, List.setIfInBounds_toArray, List.set_cons_zero, List.set_cons_succ]
              refine wpAnyH_take (i := 5) (oi := ⟨some 44, .indexAddr 22 (.tmp 42) (.tmp 43), 0, "bus.go:34", #[⟨3, .data⟩, ⟨4, .data⟩], none⟩) (v := ?_) rfl (by kernel_rfl) (by kernel_rfl) (by kernel_rfl) (fun _ _ _ h => h) (Or.inl ⟨by rfl, ?_⟩) (by assumption) ?_
              rotate_left
              · (intro w_ hS_; (try dsimp only at hS_); go_simp; try with_reducible rfl)
              try simp only [Act.put, List.setIfInBounds_toArray, List.set_cons_zero, List.set_cons_succ]
              refine wpAnyH_take (i := 6) (oi := ⟨some 45, .fieldAddr 33 (.tmp 44) 0, 0, "bus.go:34", #[⟨5, .data⟩], none⟩) (v := ?_) rfl (by kernel_rfl) (by kernel_rfl) (by kernel_rfl) (fun _ _ _ h => h) (Or.inl ⟨by rfl, ?_⟩) (by assumption) ?_
              rotate_left
              · (intro w_ hS_; (try dsimp only at hS_); go_simp; try with_reducible rfl)
              try simp only [Act.put, List.setIfInBounds_toArray, List.set_cons_zero, List.set_cons_succ]
              refine wpAnyH_take (i := 7) (oi := ⟨some 46, .load 3 (.tmp 45), 3, "bus.go:34", #[⟨6, .data⟩], none⟩) (v := ?_) rfl (by kernel_rfl) (by kernel_rfl) (by kernel_rfl) (fun _ _ _ h => h) (Or.inl ⟨by rfl, ?_⟩) (by assumption) ?_
              rotate_left
              · (intro w_ hS_; (try dsimp only at hS_); go_simp; try with_reducible rfl)
              try simp only [Act.put, List.setIfInBounds_toArray, List.set_cons_zero, List.set_cons_succ]
              refine wpAnyH_take (i := 8) (oi := ⟨some 47, .move (.tmp 6), 24, "bus.go:34", #[], none⟩) (v := ?_) rfl (by kernel_rfl) (by kernel_rfl) (by kernel_rfl) (fun _ _ _ h => h) (Or.inl ⟨by rfl, ?_⟩) (by assumption) ?_
              rotate_left
              · (intro w_ hS_; (try dsimp only at hS_); go_simp; try with_reducible rfl)
              try simp only [Act.put, List.setIfInBounds_toArray, List.set_cons_zero, List.set_cons_succ]
              refine wpAnyH_take (i := 9) (oi := ⟨some 48, .nilCheck (.tmp 47), 0, "bus.go:34", #[⟨8, .data⟩], none⟩) (v := ?_) rfl (by kernel_rfl) (by kernel_rfl) (by kernel_rfl) (fun _ _ _ h => h) (Or.inl ⟨by rfl, ?_⟩) (by assumption) ?_
              rotate_left
              · (intro w_ hS_; (try dsimp only at hS_); go_simp; try with_reducible rfl)
              try simp only [Act.put, List.setIfInBounds_toArray, List.set_cons_zero, List.set_cons_succ]
              refine wpAnyH_take (i := 10) (oi := ⟨some 49, .fieldAddr 53 (.tmp 48) 0, 0, "bus.go:34", #[⟨9, .data⟩], none⟩) (v := ?_) rfl (by kernel_rfl) (by kernel_rfl) (by kernel_rfl) (fun _ _ _ h => h) (Or.inl ⟨by rfl, ?_⟩) (by assumption) ?_
              rotate_left
              · (intro w_ hS_; (try dsimp only at hS_); go_simp; try with_reducible rfl)
              try simp only [Act.put, List.setIfInBounds_toArray, List.set_cons_zero, List.set_cons_succ]
              refine wpAnyH_take (i := 11) (oi := ⟨some 50, .load 22 (.tmp 49), 22, "bus.go:34", #[⟨10, .data⟩], none⟩) (v := ?_) rfl (by kernel_rfl) (by kernel_rfl) (by kernel_rfl) (fun _ _ _ h => h) (Or.inl ⟨by rfl, ?_⟩) (by assumption) ?_
              rotate_left
              · (intro w_ hS_; (try dsimp only at hS_); go_simp; try with_reducible rfl)
              try simp only [Act.put, List.setIfInBounds_toArray, List.set_cons_zero, List.set_cons_succ]
              refine wpAnyH_take (i := 12) (oi := ⟨some 51, .move (.tmp 7), 3, "bus.go:34", #[], none⟩) (v := ?_) rfl (by kernel_rfl) (by kernel_rfl) (by kernel_rfl) (fun _ _ _ h => h) (Or.inl ⟨by rfl, ?_⟩) (by assumption) ?_
              rotate_left
              · (intro w_ hS_; (try dsimp only at hS_); go_simp; try with_reducible rfl)
              try simp only [Act.put, List.setIfInBounds_toArray, List.set_cons_zero, List.set_cons_succ]
              refine wpAnyH_take (i := 13) (oi := ⟨some 52, .binOp .sub 3 (.tmp 51) (.const (.int .i64 1)) 3, 3, "bus.go:34", #[⟨12, .data⟩], none⟩) (v := ?_) rfl (by kernel_rfl) (by kernel_rfl) (by kernel_rfl) (fun _ _ _ h => h) (Or.inl ⟨by rfl, ?_⟩) (by assumption) ?_
              rotate_left
              · (intro w_ hS_; (try dsimp only at hS_); go_simp; try with_reducible rfl)
              try simp only [Act.put, List.setIfInBounds_toArray, List.set_cons_zero, List.set_cons_succ]
              refine wpAnyH_take (i := 14) (oi := ⟨some 53, .indexAddr 22 (.tmp 50) (.tmp 52), 0, "bus.go:34", #[⟨11, .data⟩, ⟨13, .data⟩], none⟩) (v := ?_) rfl (by kernel_rfl) (by kernel_rfl) (by kernel_rfl) (fun _ _ _ h => h) (Or.inl ⟨by rfl, ?_⟩) (by assumption) ?_
              rotate_left
              · (intro w_ hS_; (try dsimp only at hS_); go_simp; try with_reducible rfl)
              try simp only [Act.put, List.setIfInBounds_toArray, List.set_cons_zero, List.set_cons_succ]
              refine wpAnyH_take (i := 15) (oi := ⟨some 54, .fieldAddr 33 (.tmp 53) 0, 0, "bus.go:34", #[⟨14, .data⟩], none⟩) (v := ?_) rfl (by kernel_rfl) (by kernel_rfl) (by kernel_rfl) (fun _ _ _ h => h) (Or.inl ⟨by rfl, ?_⟩) (by assumption) ?_
              rotate_left
              · (intro w_ hS_; (try dsimp only at hS_); go_simp; try with_reducible rfl)
              try simp only [Act.put, List.setIfInBounds_toArray, List.set_cons_zero, List.set_cons_succ]
              refine wpAnyH_take (i := 16) (oi := ⟨some 55, .load 3 (.tmp 54), 3, "bus.go:34", #[⟨15, .data⟩], none⟩) (v := ?_) rfl (by kernel_rfl) (by kernel_rfl) (by kernel_rfl) (fun _ _ _ h => h) (Or.inl ⟨by rfl, ?_⟩) (by assumption) ?_
              rotate_left
              · (intro w_ hS_; (try dsimp only at hS_); go_simp; try with_reducible rfl)
              try simp only [Act.put, List.setIfInBounds_toArray, List.set_cons_zero, List.set_cons_succ]
              refine wpAnyH_take (i := 17) (oi := ⟨some 56, .move (.tmp 6), 24, "bus.go:34", #[], none⟩) (v := ?_) rfl (by kernel_rfl) (by kernel_rfl) (by kernel_rfl) (fun _ _ _ h => h) (Or.inl ⟨by rfl, ?_⟩) (by assumption) ?_
              rotate_left
              · (intro w_ hS_; (try dsimp only at hS_); go_simp; try with_reducible rfl)
              try simp only [Act.put, List.setIfInBounds_toArray, List.set_cons_zero, List.set_cons_succ]
              refine wpAnyH_take (i := 18) (oi := ⟨some 57, .nilCheck (.tmp 56), 0, "bus.go:34", #[⟨17, .data⟩], none⟩) (v := ?_) rfl (by kernel_rfl) (by kernel_rfl) (by kernel_rfl) (fun _ _ _ h => h) (Or.inl ⟨by rfl, ?_⟩) (by assumption) ?_
              rotate_left
              · (intro w_ hS_; (try dsimp only at hS_); go_simp; try with_reducible rfl)
              try simp only [Act.put, List.setIfInBounds_toArray, List.set_cons_zero, List.set_cons_succ]
              refine wpAnyH_take (i := 19) (oi := ⟨some 58, .fieldAddr 53 (.tmp 57) 0, 0, "bus.go:34", #[⟨18, .data⟩], none⟩) (v := ?_) rfl (by kernel_rfl) (by kernel_rfl) (by kernel_rfl) (fun _ _ _ h => h) (Or.inl ⟨by rfl, ?_⟩) (by assumption) ?_
              rotate_left
              · (intro w_ hS_; (try dsimp only at hS_); go_simp; try with_reducible rfl)
              try simp only [Act.put, List.setIfInBounds_toArray, List.set_cons_zero, List.set_cons_succ]
              refine wpAnyH_take (i := 20) (oi := ⟨some 59, .load 22 (.tmp 58), 22, "bus.go:34", #[⟨19, .data⟩], none⟩) (v := ?_) rfl (by kernel_rfl) (by kernel_rfl) (by kernel_rfl) (fun _ _ _ h => h) (Or.inl ⟨by rfl, ?_⟩) (by assumption) ?_
              rotate_left
              · (intro w_ hS_; (try dsimp only at hS_); go_simp; try with_reducible rfl)
              try simp only [Act.put, List.setIfInBounds_toArray, List.set_cons_zero, List.set_cons_succ]
              refine wpAnyH_take (i := 21) (oi := ⟨some 60, .move (.tmp 7), 3, "bus.go:34", #[], none⟩) (v := ?_) rfl (by kernel_rfl) (by kernel_rfl) (by kernel_rfl) (fun _ _ _ h => h) (Or.inl ⟨by rfl, ?_⟩) (by assumption) ?_
              rotate_left
              · (intro w_ hS_; (try dsimp only at hS_); go_simp; try with_reducible rfl)
              try simp only [Act.put, List.setIfInBounds_toArray, List.set_cons_zero, List.set_cons_succ]
              refine wpAnyH_take (i := 22) (oi := ⟨some 61, .binOp .sub 3 (.tmp 60) (.const (.int .i64 1)) 3, 3, "bus.go:34", #[⟨21, .data⟩], none⟩) (v := ?_) rfl (by kernel_rfl) (by kernel_rfl) (by kernel_rfl) (fun _ _ _ h => h) (Or.inl ⟨by rfl, ?_⟩) (by assumption) ?_
              rotate_left
              · (intro w_ hS_; (try dsimp only at hS_); go_simp; try with_reducible rfl)
              try simp only [Act.put, List.setIfInBounds_toArray, List.set_cons_zero, List.set_cons_succ]
              refine wpAnyH_take (i := 23) (oi := ⟨some 62, .indexAddr 22 (.tmp 59) (.tmp 61), 0, "bus.go:34", #[⟨20, .data⟩, ⟨22, .data⟩], none⟩) (v := ?_) rfl (by kernel_rfl) (by kernel_rfl) (by kernel_rfl) (fun _ _ _ h => h) (Or.inl ⟨by rfl, ?_⟩) (by assumption) ?_
              rotate_left
              · (intro w_ hS_; (try dsimp only at hS_); go_simp; try with_reducible rfl)
              try simp only [Act.put, List.setIfInBounds_toArray, List.set_cons_zero, List.set_cons_succ]
              refine wpAnyH_take (i := 24) (oi := ⟨some 63, .fieldAddr 33 (.tmp 62) 1, 0, "bus.go:34", #[⟨23, .data⟩], none⟩) (v := ?_) rfl (by kernel_rfl) (by kernel_rfl) (by kernel_rfl) (fun _ _ _ h => h) (Or.inl ⟨by rfl, ?_⟩) (by assumption) ?_
              rotate_left
              · (intro w_ hS_; (try dsimp only at hS_); go_simp; try with_reducible rfl)
              try simp only [Act.put, List.setIfInBounds_toArray, List.set_cons_zero, List.set_cons_succ]
              refine wpAnyH_take (i := 25) (oi := ⟨some 64, .load 3 (.tmp 63), 3, "bus.go:34", #[⟨24, .data⟩], none⟩) (v := ?_) rfl (by kernel_rfl) (by kernel_rfl) (by kernel_rfl) (fun _ _ _ h => h) (Or.inl ⟨by rfl, ?_⟩) (by assumption) ?_
              rotate_left
              · (intro w_ hS_; (try dsimp only at hS_); go_simp; try with_reducible rfl)
              try simp only [Act.put, List.setIfInBounds_toArray, List.set_cons_zero, List.set_cons_succ]
              refine wpAnyH_take (i := 26) (oi := ⟨some 65, .binOp .add 3 (.tmp 55) (.tmp 64) 3, 3, "bus.go:34", #[⟨16, .data⟩, ⟨25, .data⟩], none⟩) (v := ?_) rfl (by kernel_rfl) (by kernel_rfl) (by kernel_rfl) (fun _ _ _ h => h) (Or.inl ⟨by rfl, ?_⟩) (by assumption) ?_
              rotate_left
              · (intro w_ hS_; (try dsimp only at hS_); go_simp; try with_reducible rfl)
              try simp only [Act.put, List.setIfInBounds_toArray, List.set_cons_zero, List.set_cons_succ]
              refine wpAnyH_take (i := 27) (oi := ⟨some 66, .binOp .lss 3 (.tmp 46) (.tmp 65) 3, 4, "bus.go:34", #[⟨7, .data⟩, ⟨26, .data⟩], none⟩) (v := ?_) rfl (by kernel_rfl) (by kernel_rfl) (by kernel_rfl) (fun _ _ _ h => h) (Or.inl ⟨by rfl, ?_⟩) (by assumption) ?_
              rotate_left
              · (intro w_ hS_; (try dsimp only at hS_); go_simp; try with_reducible rfl)
              try simp only [Act.put, List.setIfInBounds_toArray, List.set_cons_zero, List.set_cons_succ]
              refine wpAnyH_done (by kernel_rfl) ?_ _
              (try dsimp only at hHeld)
              go_split_ands
              go_wp2
              go_roundw
              case rel =>
                refine ⟨k + 1, by omega, congrArg (Value.int .i64) (by omega), by assumption, fun i h1 h2 => ?_⟩
                by_cases h3 : i < k
                · exact HOV.out i h3 h2
                · obtain rfl : i = k := by omega
                  rw [hc]
                  have := HO.out
                  omega
              case measure => simp [intOf]; omega
          · have k1 : ¬ ((k + 1 : Nat) : Int) < n := by omega
            have k1' : ¬ (k : Int) + 1 < n := by omega
            have HOV := Lib.hid hov
            have HD := Lib.hid hD'
            clear hov hD'
            go_wp2
            refine bodyPost_ret (results_tmp2 rfl _ _ _) rfl ?_
            have hBw : RowKit.Below w.heap.size w wr := AsideP.below (P := fun _ => False) hX hB5 (fun _ h => h.elim) l5
            have hCw : Kd.C k33 wr A' n d' := Kd.C_below hC5 ⟨hX.os, hX.tape, hX.output, hX.size, fun i hi => hX.block i hi (fun h => h)⟩
            refine ⟨_, _, rfl, hBw, .inr ⟨HNB.out, d', hperm, hsrt, .inr ⟨fun i hi => HOV.out i (by omega) (by omega), rfl, W3.heap.size, A', c', rfl, l3a, ⟨y1, y1'⟩, hc', hCw, fun h => ?_⟩⟩⟩
            obtain ⟨ob, e⟩ := hOk h
            obtain ⟨h1, h2⟩ := HO3.out ob h e
            exact ⟨ob, e, h1, by omega⟩
end Go.Proofs.Ytjkbocejdjnfiaa.Bs
