/- Contracts by hand of layer 20: where an interrupt stands, and the one that is taken first. -/
import Derived.Test.YtbhideabefjadaaH3
namespace Go.Proofs.Ytbhideabefjadaa
open Go.RowKit Go.Shelf Go.Proofs.YtbhideabefjadaaW.PrintWords Go.Proofs.YtbhideabefjadaaW.PrintMore Go.Proofs.Ytbhideabefjadaa.IAll
attribute [local go_sem] Oper.semAt_some
def pFind (number : Int) (x : S24) : Bool := x.f0 != 0 && x.f1 == number
def findOf (xs : List S24) (number : Int) : Int := (places (pFind number) xs).headD (-1)
set_option maxRecDepth 100000 in
set_option maxHeartbeats 1000000 in
theorem Find_c (A : Option Addr) (c : Nat) (xs : List S24) (number : Int) (w : World) (hC : Kd.C k24 w A xs.length xs) (hxs : xs.length ≤ 9223372036854775807) : Calls Try.prog 21 #[.slice A xs.length c, .int .i64 number] w fun e w' =>
    e = .returned (.int .i64 (findOf xs number)) ∧ Below w.heap.size w w' := by
  refine calls_of_wide ?_
  refine callsIn_of_wp_marks Try.func21 rfl trivial ?_ rfl
  simp only [Try.ntmps21, List.size_toArray, List.length_cons, List.length_nil, Nat.reduceAdd, Nat.reduceSub, Array.replicate_succ, Array.replicate_zero, List.push_toArray, List.append_toArray, List.nil_append, List.cons_append]
  gi_wp2_with (gi_at_call 27; refine (in_of_calls (where_c _ _ _ _ _ _)).mono ?_; rintro e w' ⟨rfl, rfl⟩)
  generalize hw0 : (w.alloc (.cells #[.int .i64 number] 3)).alloc (.cells #[.int .i64 0] 3) = w0
  have hs0 : w0.heap.size = w.heap.size + 2 := by rw [← hw0]; simp
  have hb0 : Below w.heap.size w w0 := by rw [← hw0]; exact ((Below.refl _ w).alloc (Nat.le_refl _) _).alloc (by simp) _
  have hC0 : Kd.C k24 w0 A xs.length xs := Kd.C_below hC hb0
  have hN0 : Boxed w0 w.heap.size 3 (.int .i64 number) := by rw [← hw0]; exact (Boxed.new w 3 _).alloc _
  have hR0 : Boxed w0 (w.heap.size + 1) 3 (.int .i64 0) := by rw [← hw0]; have := Boxed.new (w.alloc (.cells #[.int .i64 number] 3)) 3 (.int .i64 0); rwa [World.size_alloc] at this
  have hb1 := two_below A xs.length c (.func (.func 34) #[] #[.pointer (some ⟨w.heap.size, 0, none⟩)]) w0
  have hs1 := two_size A xs.length c (.func (.func 34) #[] #[.pointer (some ⟨w.heap.size, 0, none⟩)]) w0
  have hN1 : Boxed (two A xs.length c (.func (.func 34) #[] #[.pointer (some ⟨w.heap.size, 0, none⟩)]) w0) w.heap.size 3 (.int .i64 number) := (hb1.block _ (by omega)).trans hN0
  have hR1 : Boxed (two A xs.length c (.func (.func 34) #[] #[.pointer (some ⟨w.heap.size, 0, none⟩)]) w0) (w.heap.size + 1) 3 (.int .i64 0) := (hb1.block _ (by omega)).trans hR0
  have hit := seq_iter (pFind number) 34 #[.pointer (some ⟨w.heap.size, 0, none⟩)] A c xs (fun k => k = w.heap.size) w0 hC0 hxs (fun k h => by omega) (find_in _ _ _ number w.heap.size (.inr (.inr (.inr rfl))) hN1) (enters_of Try.func34 (by kernel_rfl) rfl)
  have hSl : ∀ k, SeqS A xs.length w0.heap.size (fun k => k = w.heap.size) k → k < (two A xs.length c (.func (.func 34) #[] #[.pointer (some ⟨w.heap.size, 0, none⟩)]) w0).heap.size := fun k hk => hk.lt hC0 (by omega) (by omega) (fun k h => by omega)
  generalize two A xs.length c (.func (.func 34) #[] #[.pointer (some ⟨w.heap.size, 0, none⟩)]) w0 = W1 at *
  have hB1 : Below w.heap.size w W1 := hb0.trans (hb1.mono (by omega))
  refine wp_range (Pv := NoCells) (fun _ h => h) rfl (enters_of Try.func35 (by kernel_rfl) rfl) hit (Below.refl _ _)
    (fun h k => h.trans k) (KeepsS.put hSl) (fun _ => rfl)
    (fun pre W => (pre = [] ∧ Boxed W (w.heap.size + 1) 3 (.int .i64 0)) ∧ Below w.heap.size w W)
    (fun c pre W => (c = .ret ∧ ∃ x : Int, pre = [x] ∧ Boxed W (w.heap.size + 1) 3 (.int .i64 x)) ∧ Below w.heap.size w W)
    (((OwnP.const _ _ _).and (OwnP.box NoCells (by omega) 3 _)).and (OwnP.below NoCells (by omega) (by omega)))
    (fun c => OwnP.and (fun s W W' row hs hg hr => by
      obtain ⟨hc, x, hx, h1⟩ := hs
      exact ⟨hc, x, hx, h1.kept hg (fun e => by have := (hr _ e.symm).1; omega)⟩) (OwnP.below NoCells (by omega) (by omega)))
    ⟨⟨rfl, hR1⟩, hB1⟩ ?round ?done ?stop
  case round =>
    rintro l pre x post W hps hl hlt ⟨⟨rfl, h1⟩, hB⟩
    gi_wp2
    refine ⟨KeepsFrom.refl _ _, KeepsS.refl _ _ _, ⟨⟨by trivial, h1⟩, hB⟩, ?_⟩
    clear h1 hB hit hN0 hN1 hR0 hR1 hb0 hb1 hB1 hC0 hSl hw0
    rintro W2 hg ⟨⟨-, h1⟩, hB⟩
    have c1 := h1.cell
    have f1 := h1.frozen
    gi_wp2
    exact ⟨(KeepsOthers.setCell _ _ _).from _, ⟨rfl, x, rfl, h1.set _⟩, hB.setCell (p := ⟨w.heap.size + 1, 0, none⟩) (by simp) _⟩
  case done =>
    rintro D W hD ⟨⟨hnil, h1⟩, hB⟩ hK
    have c1 := h1.cell
    have f1 := h1.frozen
    gi_wp2
    have hK2 := (KeepsOthers.setCell W ⟨w.heap.size + 1, 0, none⟩ (.int .i64 (-1))).same D _ hK rfl
    have d1 := (boxed_putD (h1.set (.int .i64 (-1))) (D := D) (by omega) (.deferred none)).cell
    refine leave_mark hK2 (v := .int .i64 (-1)) (by simp [results, Try.results21, go_sem, d1]) ⟨?_, ?_⟩
    · rw [findOf, hnil]; rfl
    · exact below_putD (hB.setCell (p := ⟨w.heap.size + 1, 0, none⟩) (by simp) _) (by omega) _
  case stop =>
    rintro D c pre x post W hps hD ⟨⟨rfl, y, hy, h1⟩, hB⟩ hK
    gi_wp2
    obtain ⟨rfl, rfl⟩ : pre = [] ∧ x = y := by
      cases pre with
      | nil => simpa using hy
      | cons z zs => simp at hy
    have d1 := (boxed_putD h1 (D := D) (by omega) (.deferred none)).cell
    refine leave_mark hK (v := .int .i64 x) (by simp [results, Try.results21, go_sem, d1]) ⟨?_, ?_⟩
    · rw [findOf, hps]; rfl
    · exact below_putD hB (by omega) _
theorem Before_c (p a q b : Int) (w : World) : Calls Try.prog 26 #[.int .i64 p, .int .i64 a, .int .i64 q, .int .i64 b] w fun e w' => e = .returned (.bool (decide (p < q) || (p == q && decide (a < b)))) ∧ w = w' := by
  cases h1 : decide (p < q) with
  | true =>
    go_enter Try.func26, Try.ntmps26
    go_wp2
    go_ret
    exact ⟨rfl, rfl⟩
  | false =>
    cases h2 : (p == q) with
    | true =>
      go_enter Try.func26, Try.ntmps26
      go_wp2
      go_ret
      exact ⟨rfl, rfl⟩
    | false =>
      go_enter Try.func26, Try.ntmps26
      go_wp2
      go_ret
      exact ⟨rfl, rfl⟩
def before (p a q b : Int) : Bool := decide (p < q) || (p == q && decide (a < b))
structure Cand where
  id : Int
  pr : Int
  gr : Int
  is : Bool
def Cand.cells (c : Cand) : Array Value := #[.int .i64 c.id, .int .i64 c.pr, .int .i64 c.gr, .bool c.is]
def Cand.zero : Cand := ⟨0, 0, 0, false⟩
def bestStep (xs : List S24) (c : Cand) (k : Int) : Cand :=
  if !c.is || before (rd_T24 xs k).f2 (rd_T24 xs k).f1 c.pr c.id then ⟨(rd_T24 xs k).f1, (rd_T24 xs k).f2, (rd_T24 xs k).f3, true⟩ else c
def bestOf (xs : List S24) (ks : List Int) : Cand := ks.foldl (bestStep xs) Cand.zero
theorem bestOf_snoc (xs : List S24) (ks : List Int) (k : Int) : bestOf xs (ks ++ [k]) = bestStep xs (bestOf xs ks) k := by simp [bestOf]
set_option maxRecDepth 100000 in
set_option maxHeartbeats 4000000 in
theorem Best_c (A : Option Addr) (c : Nat) (xs : List S24) (w : World) (hC : Kd.C k24 w A xs.length xs) (hxs : xs.length ≤ 9223372036854775807) : Calls Try.prog 11 #[.slice A xs.length c] w fun e w' =>
    e = .returned (.agg (bestOf xs (places pWaits xs)).cells) ∧ Below w.heap.size w w' := by
  refine calls_of_wide ?_
  refine callsIn_of_wp_marks Try.func11 rfl trivial ?_ rfl
  simp only [Try.ntmps11, List.size_toArray, List.length_cons, List.length_nil, Nat.reduceAdd, Nat.reduceSub, Array.replicate_succ, Array.replicate_zero, List.push_toArray, List.append_toArray, List.nil_append, List.cons_append]
  gi_wp2_with (gi_at_call 14; refine (in_of_calls (Waits_c _ _ _ _)).mono ?_; rintro e w' ⟨rfl, rfl⟩)
  generalize hw0 : ((w.alloc (.cells #[.slice A xs.length c] 31)).alloc (.cells #[.int .i64 0, .int .i64 0, .int .i64 0, .bool false] 33)).alloc (.cells #[.int .i64 0, .int .i64 0, .int .i64 0, .bool false] 33) = w0
  have hs0 : w0.heap.size = w.heap.size + 3 := by rw [← hw0]; simp
  have hb0 : Below w.heap.size w w0 := by rw [← hw0]; exact (((Below.refl _ w).alloc (Nat.le_refl _) _).alloc (by simp) _).alloc (by simp; omega) _
  have hC0 : Kd.C k24 w0 A xs.length xs := Kd.C_below hC hb0
  have hL0 : Boxed w0 w.heap.size 31 (.slice A xs.length c) := by rw [← hw0]; exact ((Boxed.new w 31 _).alloc _).alloc _
  have hR0 : BoxN w0 (w.heap.size + 1) 33 #[.int .i64 0, .int .i64 0, .int .i64 0, .bool false] := by
    rw [← hw0]; have := (BoxN.new (w.alloc (.cells #[.slice A xs.length c] 31)) 33 #[.int .i64 0, .int .i64 0, .int .i64 0, .bool false]).alloc (.cells #[.int .i64 0, .int .i64 0, .int .i64 0, .bool false] 33); rwa [World.size_alloc] at this
  have hV0 : BoxN w0 (w.heap.size + 2) 33 #[.int .i64 0, .int .i64 0, .int .i64 0, .bool false] := by
    rw [← hw0]; have := BoxN.new ((w.alloc (.cells #[.slice A xs.length c] 31)).alloc (.cells #[.int .i64 0, .int .i64 0, .int .i64 0, .bool false] 33)) 33 #[.int .i64 0, .int .i64 0, .int .i64 0, .bool false]; simpa using this
  have hb1 := two_below A xs.length c (.func (.func 29) #[] #[]) w0
  have hs1 := two_size A xs.length c (.func (.func 29) #[] #[]) w0
  have hit := seq_iter pWaits 29 #[] A c xs (fun _ => False) w0 hC0 hxs (fun k h => h.elim) (waits_in _ _ _) (enters_of Try.func29 (by kernel_rfl) rfl)
  have hSl : ∀ k, SeqS A xs.length w0.heap.size (fun _ => False) k → k < (two A xs.length c (.func (.func 29) #[] #[]) w0).heap.size := fun k hk => hk.lt hC0 (by omega) (by omega) (fun k h => h.elim)
  have hSn : ∀ k, SeqS A xs.length w0.heap.size (fun _ => False) k → k ≠ w.heap.size + 2 := by
    rintro k (h | rfl | rfl | h)
    · have := h.lt hC; omega
    · omega
    · omega
    · exact h.elim
  have hL1 : Boxed (two A xs.length c (.func (.func 29) #[] #[]) w0) w.heap.size 31 (.slice A xs.length c) := (hb1.block _ (by omega)).trans hL0
  have hR1 : BoxN (two A xs.length c (.func (.func 29) #[] #[]) w0) (w.heap.size + 1) 33 #[.int .i64 0, .int .i64 0, .int .i64 0, .bool false] := (hb1.block _ (by omega)).trans hR0
  have hV1 : BoxN (two A xs.length c (.func (.func 29) #[] #[]) w0) (w.heap.size + 2) 33 #[.int .i64 0, .int .i64 0, .int .i64 0, .bool false] := (hb1.block _ (by omega)).trans hV0
  generalize two A xs.length c (.func (.func 29) #[] #[]) w0 = W1 at *
  have hB1 : Below w.heap.size w W1 := hb0.trans (hb1.mono (by omega))
  refine wp_range (Pv := NoCells) (fun _ h => h) rfl (enters_of Try.func35 (by kernel_rfl) rfl) hit (Below.refl _ _)
    (fun h k => h.trans k) (KeepsS.put hSl) (fun _ => rfl)
    (fun pre W => (Boxed W w.heap.size 31 (.slice A xs.length c) ∧ BoxN W (w.heap.size + 1) 33 #[.int .i64 0, .int .i64 0, .int .i64 0, .bool false] ∧ BoxN W (w.heap.size + 2) 33 (bestOf xs pre).cells) ∧ Below w.heap.size w W) (fun _ _ _ => False)
    (((OwnP.box NoCells (by omega) 31 (fun _ : List Int => .slice A xs.length c)).and ((OwnP.boxN NoCells (by omega) 33 (fun _ : List Int => #[.int .i64 0, .int .i64 0, .int .i64 0, .bool false])).and (OwnP.boxN NoCells (by omega) 33 (fun pre : List Int => (bestOf xs pre).cells)))).and (OwnP.below NoCells (by omega) (by omega))) (fun _ => OwnP.const _ _ (fun _ => False))
    ⟨⟨hL1, hR1, hV1⟩, hB1⟩ ?round ?done ?stop
  case round =>
    rintro l pre x post W hps hl hlt ⟨⟨h1, h2, h3⟩, hB⟩
    clear hit hL0 hL1 hR0 hR1 hV0 hV1 hb0 hb1 hB1 hC0 hSl hw0
    have hxm : x ∈ pl pWaits xs xs.length := (show x ∈ places pWaits xs by rw [hps]; simp)
    have hmem : 0 ≤ x ∧ x < xs.length ∧ pWaits (rd_T24 xs x) = true := pl_mem pWaits xs xs.length x hxm
    clear hxm
    obtain ⟨j, rfl⟩ : ∃ j : Nat, x = (j : Int) := ⟨x.toNat, by omega⟩
    have hj0 : 0 ≤ (j : Int) := by omega
    have hj1 : j < xs.length := by omega
    clear hps hmem
    gi_wp2
    refine ⟨KeepsFrom.refl _ _, KeepsS.refl _ _ _, ⟨⟨h1, h2, h3⟩, hB⟩, ?_⟩
    clear h1 h2 h3 hB
    rintro W2 hg ⟨⟨h1, h2, h3⟩, hB⟩
    have hsz : w.heap.size + 5 ≤ W2.heap.size := by have := hg.size; omega
    clear hg hl hlt
    obtain ⟨ad, rfl, e0, e1, e2, e3, e4, e5, e6⟩ := C_keeps (S := fun k => k < w.heap.size) (T := fun _ => False) hC (KeepsS.new hB (fun k h => h)) (fun k h => h.lt hC) j hj1
    have hd1 : decide (j < xs.length) = true := decide_eq_true hj1
    have c1 := h1.cell
    generalize hbest : bestOf xs pre = bst at *
    obtain ⟨b0, b1, b2, b3⟩ := bst
    have c3 : ∀ o, (W2.alloc o).cell? ⟨w.heap.size + 2, 3, none⟩ = some (.bool b3) := fun o => (h3.alloc o).cell (i := 3) rfl
    have c31 : ∀ o, (W2.alloc o).cell? ⟨w.heap.size + 2, 1, none⟩ = some (.int .i64 b1) := fun o => (h3.alloc o).cell (i := 1) rfl
    have c30 : ∀ o, (W2.alloc o).cell? ⟨w.heap.size + 2, 0, none⟩ = some (.int .i64 b0) := fun o => (h3.alloc o).cell (i := 0) rfl
    have c32 : ∀ o, (W2.alloc o).cell? ⟨w.heap.size + 2, 2, none⟩ = some (.int .i64 b2) := fun o => (h3.alloc o).cell (i := 2) rfl
    have f3 : ∀ o i, (W2.alloc o).frozen? ⟨w.heap.size + 2, i, none⟩ = false := fun o i => (h3.alloc o).frozen i
    have HB_ := Lib.hid hbest
    clear hbest
    cases b3 with
    | false =>
      gi_wp2
      generalize hnb : W2.alloc (.cells #[.int .i64 (rd_T24 xs j).f0, .int .i64 (rd_T24 xs j).f1, .int .i64 (rd_T24 xs j).f2, .int .i64 (rd_T24 xs j).f3, .bool (rd_T24 xs j).f4, .int .i64 (rd_T24 xs j).f5, .bool (rd_T24 xs j).f6] 24) = W3
      have hB3 : Below w.heap.size w W3 := by rw [← hnb]; exact hB.alloc (by omega) _
      have hk3 : KeepsOthers W2 W3 := by rw [← hnb]; exact KeepsOthers.alloc _ _
      have hS3 : KeepsS (SeqS (some ad) xs.length w0.heap.size fun x => False) (fun x => False) W2 W3 := by
        rw [← hnb]; exact KeepsS.new ((Below.refl _ _).alloc (Nat.le_refl _) _) (fun k hk => hk.lt hC (by omega) (by omega) (fun k h => h.elim))
      have g1 : Boxed W3 w.heap.size 31 (.slice (some ad) xs.length c) := by rw [← hnb]; exact h1.alloc _
      have g2 : BoxN W3 (w.heap.size + 1) 33 #[.int .i64 0, .int .i64 0, .int .i64 0, .bool false] := by rw [← hnb]; exact h2.alloc _
      have g3 : BoxN W3 (w.heap.size + 2) 33 #[.int .i64 b0, .int .i64 b1, .int .i64 b2, .bool false] := by rw [← hnb]; exact h3.alloc _
      have ok := set_all (w.heap.size + 1 + 1) 33 [(0, .int .i64 (rd_T24 xs j).f1), (1, .int .i64 (rd_T24 xs j).f2), (2, .int .i64 (rd_T24 xs j).f3), (3, .bool true)] W3 _ g3
      simp only [setL, putL] at ok
      refine ⟨(hk3.trans ok.others).from _, hS3.trans (ok.keeps _ _ (fun h => h) hSn), ⟨ok.boxed g1 (by omega), ok.boxN g2 (by omega), ?_⟩, ok.below _ _ (by omega) hB3⟩
      have := ok.box
      clear ok
      rw [bestOf_snoc, HB_.out, bestStep, if_pos (by simp)]
      exact this
    | true =>
      cases hbf : before (rd_T24 xs j).f2 (rd_T24 xs j).f1 b1 b0 with
      | true =>
        have HF := Lib.hid hbf
        have hcall := Before_c (rd_T24 xs j).f2 (rd_T24 xs j).f1 b1 b0
        rw [show (decide ((rd_T24 xs j).f2 < b1) || ((rd_T24 xs j).f2 == b1 && decide ((rd_T24 xs j).f1 < b0))) = true from hbf] at hcall
        have HC_ := Lib.hid hcall
        clear hbf hcall
        gi_wp2_with (gi_at_call 26; refine (CallsIn.inRound l (in_of_calls (HC_.out _))).mono ?_; rintro e w' ⟨rfl, rfl⟩)
        generalize hnb : W2.alloc (.cells #[.int .i64 (rd_T24 xs j).f0, .int .i64 (rd_T24 xs j).f1, .int .i64 (rd_T24 xs j).f2, .int .i64 (rd_T24 xs j).f3, .bool (rd_T24 xs j).f4, .int .i64 (rd_T24 xs j).f5, .bool (rd_T24 xs j).f6] 24) = W3
        have hB3 : Below w.heap.size w W3 := by rw [← hnb]; exact hB.alloc (by omega) _
        have hk3 : KeepsOthers W2 W3 := by rw [← hnb]; exact KeepsOthers.alloc _ _
        have hS3 : KeepsS (SeqS (some ad) xs.length w0.heap.size fun x => False) (fun x => False) W2 W3 := by
          rw [← hnb]; exact KeepsS.new ((Below.refl _ _).alloc (Nat.le_refl _) _) (fun k hk => hk.lt hC (by omega) (by omega) (fun k h => h.elim))
        have g1 : Boxed W3 w.heap.size 31 (.slice (some ad) xs.length c) := by rw [← hnb]; exact h1.alloc _
        have g2 : BoxN W3 (w.heap.size + 1) 33 #[.int .i64 0, .int .i64 0, .int .i64 0, .bool false] := by rw [← hnb]; exact h2.alloc _
        have g3 : BoxN W3 (w.heap.size + 2) 33 #[.int .i64 b0, .int .i64 b1, .int .i64 b2, .bool true] := by rw [← hnb]; exact h3.alloc _
        have ok := set_all (w.heap.size + 1 + 1) 33 [(0, .int .i64 (rd_T24 xs j).f1), (1, .int .i64 (rd_T24 xs j).f2), (2, .int .i64 (rd_T24 xs j).f3), (3, .bool true)] W3 _ g3
        simp only [setL, putL] at ok
        refine ⟨(hk3.trans ok.others).from _, hS3.trans (ok.keeps _ _ (fun h => h) hSn), ⟨ok.boxed g1 (by omega), ok.boxN g2 (by omega), ?_⟩, ok.below _ _ (by omega) hB3⟩
        have := ok.box
        clear ok
        rw [bestOf_snoc, HB_.out, bestStep, if_pos (by simp [HF.out])]
        exact this
      | false =>
        have HF := Lib.hid hbf
        have hcall := Before_c (rd_T24 xs j).f2 (rd_T24 xs j).f1 b1 b0
        rw [show (decide ((rd_T24 xs j).f2 < b1) || ((rd_T24 xs j).f2 == b1 && decide ((rd_T24 xs j).f1 < b0))) = false from hbf] at hcall
        have HC_ := Lib.hid hcall
        clear hbf hcall
        gi_wp2_with (gi_at_call 26; refine (CallsIn.inRound l (in_of_calls (HC_.out _))).mono ?_; rintro e w' ⟨rfl, rfl⟩)
        generalize hnb : W2.alloc (.cells #[.int .i64 (rd_T24 xs j).f0, .int .i64 (rd_T24 xs j).f1, .int .i64 (rd_T24 xs j).f2, .int .i64 (rd_T24 xs j).f3, .bool (rd_T24 xs j).f4, .int .i64 (rd_T24 xs j).f5, .bool (rd_T24 xs j).f6] 24) = W3
        have hB3 : Below w.heap.size w W3 := by rw [← hnb]; exact hB.alloc (by omega) _
        have hk3 : KeepsOthers W2 W3 := by rw [← hnb]; exact KeepsOthers.alloc _ _
        have hS3 : KeepsS (SeqS (some ad) xs.length w0.heap.size fun x => False) (fun x => False) W2 W3 := by
          rw [← hnb]; exact KeepsS.new ((Below.refl _ _).alloc (Nat.le_refl _) _) (fun k hk => hk.lt hC (by omega) (by omega) (fun k h => h.elim))
        have g1 : Boxed W3 w.heap.size 31 (.slice (some ad) xs.length c) := by rw [← hnb]; exact h1.alloc _
        have g2 : BoxN W3 (w.heap.size + 1) 33 #[.int .i64 0, .int .i64 0, .int .i64 0, .bool false] := by rw [← hnb]; exact h2.alloc _
        have g3 : BoxN W3 (w.heap.size + 2) 33 #[.int .i64 b0, .int .i64 b1, .int .i64 b2, .bool true] := by rw [← hnb]; exact h3.alloc _
        refine ⟨hk3.from _, hS3, ⟨g1, g2, ?_⟩, hB3⟩
        rw [bestOf_snoc, HB_.out, bestStep, if_neg (by simp [HF.out])]
        exact g3
  case done =>
    rintro D W hD ⟨⟨h1, h2, h3⟩, hB⟩ hK
    generalize hbest : bestOf xs (places pWaits xs) = bst at *
    obtain ⟨b0, b1, b2, b3⟩ := bst
    have c0 : W.cell? ⟨w.heap.size + 2, 0, none⟩ = some (.int .i64 b0) := h3.cell (i := 0) rfl
    have c1 : W.cell? ⟨w.heap.size + 2, 1, none⟩ = some (.int .i64 b1) := h3.cell (i := 1) rfl
    have c2 : W.cell? ⟨w.heap.size + 2, 2, none⟩ = some (.int .i64 b2) := h3.cell (i := 2) rfl
    have c3 : W.cell? ⟨w.heap.size + 2, 3, none⟩ = some (.bool b3) := h3.cell (i := 3) rfl
    have r0 : W.cell? ⟨w.heap.size + 1, 0, none⟩ = some (.int .i64 0) := h2.cell (i := 0) rfl
    have r1 : W.cell? ⟨w.heap.size + 1, 1, none⟩ = some (.int .i64 0) := h2.cell (i := 1) rfl
    have r2 : W.cell? ⟨w.heap.size + 1, 2, none⟩ = some (.int .i64 0) := h2.cell (i := 2) rfl
    have r3 : W.cell? ⟨w.heap.size + 1, 3, none⟩ = some (.bool false) := h2.cell (i := 3) rfl
    have f2 := h2.frozen
    have HB_ := Lib.hid hbest
    clear hbest
    gi_wp2
    have ok := set_all (w.heap.size + 1) 33 [(0, .int .i64 b0), (1, .int .i64 b1), (2, .int .i64 b2), (3, .bool b3)] W _ h2
    simp only [setL, putL] at ok
    have hKD := ok.others.same D _ hK rfl
    have hbx := boxN_putD ok.box (D := D) (by omega) (.deferred none)
    have d0 := hbx.cell (i := 0) rfl
    have d1 := hbx.cell (i := 1) rfl
    have d2 := hbx.cell (i := 2) rfl
    have d3 := hbx.cell (i := 3) rfl
    refine leave_mark hKD (v := .agg #[.int .i64 b0, .int .i64 b1, .int .i64 b2, .bool b3]) (by simp [results, Try.results11, go_sem, d0, d1, d2, d3]) ⟨by rw [HB_.out]; rfl, below_putD (ok.below _ _ (by omega) hB) (by omega) _⟩
  case stop =>
    rintro D c pre x post W _ _ h _
    exact h.elim
end Go.Proofs.Ytbhideabefjadaa
