/- Texts of this claim, put together: Uz, Ta, Tk, Tb, Td, Row, OpenRows. -/
import Derived.Test.YtkbaghblchlcnaaD27
import Derived.Test.YtkbaghblchlcnaaD11
import Derived.OrdersHeld
import Derived.Test.YtkbaghblchlcnaaD26
import Derived.WalkKit
import Derived.ProofKit
import Derived.OpenShut
import Derived.ShutString
import Derived.ChangeOld
import Derived.Below
import Derived.SizedLaws
import Derived.Carry
import Derived.ChangeArms
import Derived.DataReads
namespace Go.Proofs.Ytkbaghblchlcnaa.Lr.Wd
open Go.RowKit Go.Shelf Go.Proofs.YtkbaghblchlcnaaW.PrintWords Go.Proofs.YtkbaghblchlcnaaW.PrintMore Go.Proofs.Ytkbaghblchlcnaa.IAll
theorem row_alloc {W : World} {o : Obj} {g : Nat} {cs : Array Value} (h : isRow W g) (h' : rowAt W g = cs) : Row (W.alloc o) g cs := ⟨isRow_alloc h, (rowAt_alloc h).trans h'⟩
theorem callsIn_named {F : Fence} {d : Nat} {P : Program} {f : FuncId} {args : Array Value} {R : Ending → World → Prop} {w : World} (K : World → Prop) (hK : K w) (h : ∀ W, K W → CallsIn F d P f args W R) : CallsIn F d P f args w R := h w hK
theorem KeepsFrom.low {B : Nat} {W W' : World} (h : Below W.heap.size W W') : KeepsFrom B W W' := ⟨h.size, fun i _ _ hi _ => (h.block i (Array.getElem?_eq_some_iff.1 hi).1).trans hi⟩
theorem OwnP.row {β : Type} (Pv : Obj → Prop) {B b : Nat} (hb : b < B) (f : β → Array Value) : OwnP Pv B (fun s W => Row W b (f s)) := fun _ W W' row hs hg hr =>
  hs.same (hg.block b hs.1.lt (fun e => by have := (hr b e.symm).1; omega))
attribute [local go_sem] Oper.semAt_some cell_row frozen_row isRow_setCell_eq rowAt_setCell_same rowAt_setCell_other isRow_alloc_eq rowAt_alloc rowAt_new rowAt_new' isRow_setRow_eq rowAt_setRow_same rowAt_setRow_other isRow_drew rowAt_drew size_setRow_ Lb_size Lb_at blk_ptr aggOf_agg below_alloc_e below_setCell_e below_setRow_e below_refl_e below_drew_r aside2_alloc_e aside2_setCell_e aside2_setRow_e aside2_drew_e aside2_refl_e aside2_drewN_e isRow_drewN rowAt_drewN below_drewN_e le_add_r offv_ptr one_lad zero_lad allOne_nil allOne_cons Value.oneCell' addr_at FA_size one_FA
attribute [local go_sem ↓] storeI storeC
attribute [local go_sem] eq2i eq2b eq2u
set_option maxRecDepth 100000 in
set_option maxHeartbeats 4000000 in
theorem reasons_c (g bl : Nat) (m p0 p1 : Int) (o0 o1 sp : Bool) (a b : Int) (n cc : Nat) (Tl : Array Value) (xs : List S54) (hn : xs.length = n) (h16 : n ≤ 16) (hcc : n ≤ cc) (lost : Int) (hne : ¬ g = bl) (w : World) (hr : Row w g #[.int .i64 m, .int .i64 p0, .int .i64 p1, .bool o0, .bool o1, .bool sp, .int .u32 a, .int .u32 b, .slice (some ⟨bl, 0, none⟩) n cc, .int .i64 lost]) (hl : Row w bl (FT xs Tl)) :
    Calls Try.prog 60 #[.pointer (some ⟨g, 0, none⟩)] w fun e w' => e = .returned (.int .u64 (bitsOf (rsn xs lost 4))) ∧ Below w.heap.size w w' := by
  obtain ⟨hr, hr'⟩ := hr
  obtain ⟨hl, hl'⟩ := hl
  refine calls_of_wide ?_
  refine callsIn_of_wp_marks Try.func60 rfl trivial ?_ rfl
  simp only [Try.ntmps60, List.size_toArray, List.length_cons, List.length_nil, Nat.reduceAdd, Nat.reduceSub, Array.replicate_succ, Array.replicate_zero, List.push_toArray, List.append_toArray, List.nil_append, List.cons_append]
  have lg := hr.lt
  have ll := hl.lt
  have hB := Below.refl w.heap.size w
  have ne_g_0 : ¬ g = w.heap.size := by omega
  have en_g_0 : ¬ w.heap.size = g := by omega
  have ne_g_1 : ¬ g = w.heap.size + 1 := by omega
  have en_g_1 : ¬ w.heap.size + 1 = g := by omega
  have ne_g_2 : ¬ g = w.heap.size + 1 + 1 := by omega
  have en_g_2 : ¬ w.heap.size + 1 + 1 = g := by omega
  have ne_g_3 : ¬ g = w.heap.size + 1 + 1 + 1 := by omega
  have en_g_3 : ¬ w.heap.size + 1 + 1 + 1 = g := by omega
  have ne_g_4 : ¬ g = w.heap.size + 1 + 1 + 1 + 1 := by omega
  have en_g_4 : ¬ w.heap.size + 1 + 1 + 1 + 1 = g := by omega
  have ne_bl_0 : ¬ bl = w.heap.size := by omega
  have en_bl_0 : ¬ w.heap.size = bl := by omega
  have ne_bl_1 : ¬ bl = w.heap.size + 1 := by omega
  have en_bl_1 : ¬ w.heap.size + 1 = bl := by omega
  have ne_bl_2 : ¬ bl = w.heap.size + 1 + 1 := by omega
  have en_bl_2 : ¬ w.heap.size + 1 + 1 = bl := by omega
  have ne_bl_3 : ¬ bl = w.heap.size + 1 + 1 + 1 := by omega
  have en_bl_3 : ¬ w.heap.size + 1 + 1 + 1 = bl := by omega
  have ne_bl_4 : ¬ bl = w.heap.size + 1 + 1 + 1 + 1 := by omega
  have en_bl_4 : ¬ w.heap.size + 1 + 1 + 1 + 1 = bl := by omega
  gi_wp2_with fail
  refine callsIn_named (fun W_ => (isRow W_ w.heap.size ∧ rowAt W_ w.heap.size = #[.pointer (some ⟨g, 0, none⟩)]) ∧ (isRow W_ (w.heap.size + 1) ∧ rowAt W_ (w.heap.size + 1) = #[.int .u64 0]) ∧ (isRow W_ (w.heap.size + 1 + 1) ∧ rowAt W_ (w.heap.size + 1 + 1) = #[.int .u64 0]) ∧ (isRow W_ (w.heap.size + 1 + 1 + 1) ∧ rowAt W_ (w.heap.size + 1 + 1 + 1) = #[.int .i64 (-1)]) ∧ (isRow W_ g ∧ rowAt W_ g = #[.int .i64 m, .int .i64 p0, .int .i64 p1, .bool o0, .bool o1, .bool sp, .int .u32 a, .int .u32 b, .slice (some ⟨bl, 0, none⟩) n cc, .int .i64 lost]) ∧ (isRow W_ bl ∧ rowAt W_ bl = FT xs Tl) ∧ Below w.heap.size w W_) (by refine ⟨⟨by go_simp, by go_simp⟩, ⟨by go_simp, by go_simp⟩, ⟨by go_simp, by go_simp⟩, ⟨by go_simp, by go_simp⟩, ⟨by go_simp, by go_simp⟩, ⟨by go_simp, by go_simp⟩, ((((Below.refl _ w).alloc (Nat.le_refl _) _).alloc (by simp) _).alloc (by simp; omega) _).alloc (by simp; omega) _⟩) ?_
  rintro W0 ⟨⟨b1, b1'⟩, ⟨b2, b2'⟩, ⟨b3, b3'⟩, ⟨b4, b4'⟩, ⟨g0, g0'⟩, ⟨l0, l0'⟩, hB0⟩
  refine (in_of_calls (Reasons_c g W0)).mono ?_
  rintro e W9 ⟨rfl, rfl⟩
  unfold rsnV
  have lb4 := b4.lt
  have hz0 := hB0.size
  have hv1 : Boxed (W0.alloc (.cells #[.pointer (some ⟨g, 0, none⟩)] 24)) W0.heap.size 24 (.pointer (some ⟨g, 0, none⟩)) := Boxed.new W0 24 _
  have hs1 : (W0.alloc (.cells #[.pointer (some ⟨g, 0, none⟩)] 24)).heap.size = W0.heap.size + 1 := by simp
  have hB1 : Below w.heap.size w (W0.alloc (.cells #[.pointer (some ⟨g, 0, none⟩)] 24)) := hB0.alloc hz0 _
  replace b1 := row_alloc (o := .cells #[.pointer (some ⟨g, 0, none⟩)] 24) b1 b1'
  replace b2 := row_alloc (o := .cells #[.pointer (some ⟨g, 0, none⟩)] 24) b2 b2'
  replace b3 := row_alloc (o := .cells #[.pointer (some ⟨g, 0, none⟩)] 24) b3 b3'
  replace b4 := row_alloc (o := .cells #[.pointer (some ⟨g, 0, none⟩)] 24) b4 b4'
  replace g0 := row_alloc (o := .cells #[.pointer (some ⟨g, 0, none⟩)] 24) g0 g0'
  replace l0 := row_alloc (o := .cells #[.pointer (some ⟨g, 0, none⟩)] 24) l0 l0'
  clear b1' b2' b3' b4' g0' l0' hB0 hB hr hr' hl hl'
  generalize W0.alloc (.cells #[.pointer (some ⟨g, 0, none⟩)] 24) = W1 at *
  generalize W0.heap.size = h5 at *
  clear W0
  have hS : ∀ k, RsS g bl h5 k → k < W1.heap.size ∧ k ≠ w.heap.size + 1 + 1 ∧ k ≠ w.heap.size + 1 + 1 + 1 := by
    rintro k (rfl | rfl | rfl) <;> omega
  gi_wp2_with fail
  refine wp_range (Pv := NoCells) (fun _ h => h) rfl (enters_of Try.func90 (by kernel_rfl) rfl) (reasons_iter g bl m p0 p1 o0 o1 sp a b n cc Tl xs hn h16 hcc lost hne NoCells (RsS g bl h5) (fun _ => False) h5 W1 (fun k h => (hS k h).1) (.inr (.inr rfl)) (.inl rfl) (.inr (.inl rfl)) hv1 g0 l0) (Below.refl _ _)
    (fun h k => h.trans k) (KeepsS.put (fun k h => (hS k h).1)) (fun _ => rfl)
    (fun pre W => Row W (w.heap.size + 1 + 1) #[.int .u64 (sumOf pre)] ∧ Row W (w.heap.size + 1 + 1 + 1) #[.int .i64 (lastOf pre)] ∧ Row W w.heap.size #[.pointer (some ⟨g, 0, none⟩)] ∧ Row W (w.heap.size + 1) #[.int .u64 0] ∧ Row W g #[.int .i64 m, .int .i64 p0, .int .i64 p1, .bool o0, .bool o1, .bool sp, .int .u32 a, .int .u32 b, .slice (some ⟨bl, 0, none⟩) n cc, .int .i64 lost] ∧ Row W bl (FT xs Tl) ∧ Below w.heap.size w W) (fun _ _ _ => False)
    ((OwnP.row NoCells (by omega) (fun pre : List Int => #[.int .u64 (sumOf pre)])).and ((OwnP.row NoCells (by omega) (fun pre : List Int => #[.int .i64 (lastOf pre)])).and ((OwnP.row NoCells (by omega) (fun _ : List Int => #[.pointer (some ⟨g, 0, none⟩)])).and ((OwnP.row NoCells (by omega) (fun _ : List Int => #[.int .u64 0])).and ((OwnP.row NoCells (by omega) (fun _ : List Int => #[.int .i64 m, .int .i64 p0, .int .i64 p1, .bool o0, .bool o1, .bool sp, .int .u32 a, .int .u32 b, .slice (some ⟨bl, 0, none⟩) n cc, .int .i64 lost])).and ((OwnP.row NoCells (by omega) (fun _ : List Int => FT xs Tl)).and (OwnP.below NoCells (by omega) (by omega)))))))) (fun _ => OwnP.const _ _ (fun _ => False))
    ⟨b3, b4, b1, b2, g0, l0, hB1⟩ ?round ?done ?stop
  case round =>
    rintro l pre x post W hx hl_ hlt ⟨c3, c4, c1, c2, cg, cl, hBW⟩
    obtain ⟨k, hk, rfl, ha, rfl⟩ := rsn_split xs lost 4 pre post x hx
    clear hx b1 b2 b3 b4 g0 l0 hB1 hv1
    gi_wp2
    refine ⟨KeepsFrom.refl _ _, KeepsS.refl _ _ _, ⟨c3, c4, c1, c2, cg, cl, hBW⟩, ?_⟩
    clear c3 c4 c1 c2 cg cl hBW
    rintro W2 hg ⟨⟨c3, c3'⟩, ⟨c4, c4'⟩, ⟨c1, c1'⟩, ⟨c2, c2'⟩, ⟨cg, cg'⟩, ⟨cl, cl'⟩, hBW⟩
    have hz2 : W1.heap.size ≤ W2.heap.size := by have := hg.size; omega
    have hla := last_lt xs lost k
    have hsb := sum_bd xs lost k
    have hsn := sumOf_snoc (rsn xs lost k) k
    have hln := lastOf_snoc (rsn xs lost k) k
    have hp : (2 : Int) ^ k ≤ 8 := by rcases (show k = 0 ∨ k = 1 ∨ k = 2 ∨ k = 3 by omega) with rfl | rfl | rfl | rfl <;> decide
    have hp0 : (0 : Int) < 2 ^ k := Int.pow_pos (by decide)
    rw [Int.toNat_natCast] at hsn
    generalize lastOf (rsn xs lost k) = LA at *
    generalize sumOf (rsn xs lost k) = SM at *
    have hV : IntKind.u64.wrap (SM + IntKind.u64.wrap (2 ^ k)) = SM + 2 ^ k := by
      rw [wrap_u64_eq (2 ^ k), Int.emod_eq_of_lt (by omega) (by omega), wrap_u64_eq, Int.emod_eq_of_lt (by omega) (by omega)]
    have hk1 : ¬ (k : Int) ≤ LA := by omega
    have hk2 : ¬ (3 : Int) < (k : Int) := by omega
    have HA0 := asks_c g bl m p0 p1 o0 o1 sp a b n cc Tl xs hn h16 hcc lost hne k hk
    rw [ha] at HA0
    have HA := Lib.hid HA0
    have HSN := Lib.hid hsn
    have HLN := Lib.hid hln
    clear HA0 hsn hln ha hla hsb hp hp0 hg
    have m1 : ¬ w.heap.size = w.heap.size + 1 + 1 := by omega
    have m2 : ¬ w.heap.size = w.heap.size + 1 + 1 + 1 := by omega
    have m3 : w.heap.size ≤ w.heap.size + 1 + 1 := by omega
    have m4 : w.heap.size ≤ w.heap.size + 1 + 1 + 1 := by omega
    gi_wp2_with fail
    refine (in_of_calls (HA.out _ cg cg' cl cl')).mono ?_
    rintro e W3 ⟨rfl, hb3⟩
    obtain ⟨d3, d3'⟩ := Row.step c3 c3' hb3
    obtain ⟨d4, d4'⟩ := Row.step c4 c4' hb3
    obtain ⟨d1, d1'⟩ := Row.step c1 c1' hb3
    obtain ⟨d2, d2'⟩ := Row.step c2 c2' hb3
    obtain ⟨dg, dg'⟩ := Row.step cg cg' hb3
    obtain ⟨dl, dl'⟩ := Row.step cl cl' hb3
    have hB3 : Below w.heap.size w W3 := bk hBW hBW.size hb3
    clear c3 c3' c4 c4' c1 c1' c2 c2' cg cg' cl cl' hBW
    have hSb : ∀ k, RsS g bl h5 k → k < W2.heap.size := fun k hk => Nat.lt_of_lt_of_le (hS k hk).1 hz2
    gi_wp2_with fail
    gi_region
    all_goals
      gi_wp2
      obtain ⟨t3, ht3⟩ := d3.box
      have d4b : isRow (W3.setCell ⟨w.heap.size + 1 + 1, 0, none⟩ (.int .u64 (SM + 2 ^ k))) (w.heap.size + 1 + 1 + 1) := by go_simp
      obtain ⟨t4, ht4⟩ := d4b.box
      refine ⟨KeepsFrom.drew_ (KeepsFrom.trans (KeepsFrom.trans (KeepsFrom.low hb3) ((KeepsOthers.setCell _ _ _).from _)) ((KeepsOthers.setCell _ _ _).from _)), KeepsS.drew_ (((KeepsS.new hb3 hSb).trans (KeepsS.set (p := ⟨w.heap.size + 1 + 1, 0, none⟩) ht3 (fun h => h) (fun k hk => (hS k hk).2.1) _)).trans (KeepsS.set (p := ⟨w.heap.size + 1 + 1 + 1, 0, none⟩) ht4 (fun h => h) (fun k hk => (hS k hk).2.2) _)), ?_⟩
      dsimp only
      rw [HSN.out, HLN.out]
      exact ⟨⟨by go_simp, by go_simp⟩, ⟨by go_simp, by go_simp⟩, ⟨by go_simp, by go_simp⟩, ⟨by go_simp, by go_simp⟩, ⟨by go_simp, by go_simp⟩, ⟨by go_simp, by go_simp⟩, by go_simp⟩
  case done =>
    rintro D W hD ⟨⟨c3, c3'⟩, ⟨c4, c4'⟩, ⟨c1, c1'⟩, ⟨c2, c2'⟩, ⟨cg, cg'⟩, ⟨cl, cl'⟩, hBW⟩ hK
    rw [sum_rsn] at c3'
    have hne2 : ¬ D = w.heap.size + 1 := by have := b2.1.lt; omega
    have hDw : w.heap.size ≤ D := by have := hB1.size; omega
    clear b1 b2 b3 b4 g0 l0 hB1 hv1
    gi_wp2
    obtain ⟨t2, ht2⟩ := c2.box
    have hKD : (W.setCell ⟨w.heap.size + 1, 0, none⟩ (.int .u64 (bitsOf (rsn xs lost 4)))).heap[D]? = some (.deferred (some [])) := (Below.heap_setCell W ⟨w.heap.size + 1, 0, none⟩ _ D hne2).trans hK
    have hc2 : isRow (W.setCell ⟨w.heap.size + 1, 0, none⟩ (.int .u64 (bitsOf (rsn xs lost 4)))) (w.heap.size + 1) ∧ rowAt (W.setCell ⟨w.heap.size + 1, 0, none⟩ (.int .u64 (bitsOf (rsn xs lost 4)))) (w.heap.size + 1) = #[.int .u64 (bitsOf (rsn xs lost 4))] := ⟨by go_simp, by go_simp⟩
    have d1 : ((W.setCell ⟨w.heap.size + 1, 0, none⟩ (.int .u64 (bitsOf (rsn xs lost 4)))).putObj D (.deferred none)).cell? ⟨w.heap.size + 1, 0, none⟩ = some (.int .u64 (bitsOf (rsn xs lost 4))) := by
      rw [World.cell?_of_block (show _ = (W.setCell ⟨w.heap.size + 1, 0, none⟩ (.int .u64 (bitsOf (rsn xs lost 4)))).heap[w.heap.size + 1]? from World.putObj_heap_other (fun e => hne2 e.symm)), cell_row hc2.1, hc2.2]
      rfl
    refine leave_mark hKD (v := .int .u64 (bitsOf (rsn xs lost 4))) (by simp [results, Try.results60, go_sem, d1]) ⟨rfl, below_putD (hBW.setCell (p := ⟨w.heap.size + 1, 0, none⟩) (by simp) _) (by omega) _⟩
  case stop =>
    rintro D c pre x post W _ _ h _
    exact h.elim
end Go.Proofs.Ytkbaghblchlcnaa.Lr.Wd
namespace Go.Proofs.Ytkbaghblchlcnaa.Lr.Wd
open Go.RowKit Go.Shelf Go.Proofs.YtkbaghblchlcnaaW.PrintWords Go.Proofs.Ytkbaghblchlcnaa.IAll
attribute [local go_sem] Oper.semAt_some cell_row frozen_row isRow_setCell_eq rowAt_setCell_same rowAt_setCell_other isRow_alloc_eq rowAt_alloc rowAt_new rowAt_new' isRow_setRow_eq rowAt_setRow_same rowAt_setRow_other isRow_drew rowAt_drew size_setRow_ Lb_size Lb_at blk_ptr aggOf_agg below_alloc_e below_setCell_e below_setRow_e below_refl_e below_drew_r aside2_alloc_e aside2_setCell_e aside2_setRow_e aside2_drew_e aside2_refl_e aside2_drewN_e isRow_drewN rowAt_drewN below_drewN_e le_add_r offv_ptr one_lad zero_lad allOne_nil allOne_cons Value.oneCell' addr_at FA_size one_FA
attribute [local go_sem ↓] storeI storeC storeE
attribute [local go_sem] eq2i eq2b eq2u
theorem eq_nil_slice {ad : Addr} {n c : Nat} (W : World) : (binOp .eql 22 (Value.slice (some ad) n c) (Value.slice none 0 0)).run Try.prog W = .ok (.bool false) W := by
  kernel_rfl
set_option maxRecDepth 100000 in
set_option maxHeartbeats 4000000 in
theorem clone_c (bl n cc : Nat) (T : Array Value) (xs : List S54) (hn : xs.length = n) (h0 : 0 < n) (h16 : n ≤ 16) (w : World) (hl : isRow w bl) (hl' : rowAt w bl = FT xs T) :
    Calls Try.prog 61 #[.slice (some ⟨bl, 0, none⟩) n cc] w fun e w' => ∃ ob c T', e = .returned (.slice (some ⟨ob, 0, none⟩) n c) ∧ n ≤ c ∧ w.heap.size ≤ ob ∧ Row w' ob (FT xs T') ∧ Below w.heap.size w w' := by
  subst hn
  have ll := hl.lt
  have n1 : ¬ bl = w.heap.size := by omega
  have n2 : ¬ w.heap.size = bl := by omega
  go_enter Try.func61, Try.ntmps61
  have heq : ∀ W : World, (binOp .eql 22 (Value.slice (some ⟨bl, 0, none⟩) xs.length cc) (Value.slice none 0 0)).run Try.prog W = .ok (.bool false) W := fun W => eq_nil_slice W
  have hr1 : Row (w.alloc (.cells #[] 54)) bl (FT xs T) := row_alloc hl hl'
  have hC : Kd.C k54 (w.alloc (.cells #[] 54)) (some ⟨bl, 0, none⟩) xs.length xs := ft_kd hr1.1 hr1.2 (by omega)
  have hR0 : k54.R 54 (w.alloc (.cells #[] 54)) w.heap.size (fun _ => True) (.slice (some ⟨w.heap.size, 0, none⟩) 0 0) ([] : List S54) := ⟨fun _ _ => trivial, [], World.ownsRow_lit w #[] 0 (Nat.le_refl _) (by decide) rfl, Reps.none _ _⟩
  have HC := Lib.hid hC
  have HR0 := Lib.hid hR0
  have hBa : Below w.heap.size w (w.alloc (.cells #[] 54)) := (Below.refl _ w).alloc (Nat.le_refl _) _
  clear hC hR0 hr1
  go_wp2_with (at_builtin; refine Kd.R_append_rows k54 (Rr := k54.K (w.alloc (.cells #[] 54))) (w0 := w) w.heap.size rfl _ _ 22 54 (.agg (enc z54)) 56 rfl Try.underlying22 infoL5 rfl (by decide) (by decide) _ ([] : List S54) xs (some ⟨bl, 0, none⟩) xs.length cc (fun _ => True) (fun _ => False) rfl rfl HR0.out HC.out (fun p cs hp => by rw [k54_open hp]; exact k54_mkM _ _ _ _) (fun _ h => h.elim) (fun _ _ => trivial) hBa (by simp) (by simp; omega) ?_; intro x_ w1 hR_ hb1 _ _; refine stop_in ?_)
  refine stop_out ?_
  rw [List.nil_append] at hR_
  obtain ⟨ob, c, cs, rfl, hc, hob, ⟨O1, O1'⟩, hp⟩ := copied hR_ h0
  obtain ⟨T', rfl⟩ := pre_ft hp
  clear hR_ hp hBa
  go_wp2
  go_ret
  exact ⟨ob, c, T', rfl, hc, hob, ⟨O1, O1'⟩, hb1⟩
set_option maxRecDepth 100000 in
set_option maxHeartbeats 4000000 in
theorem copy_c (g bl n cc : Nat) (T : Array Value) (m p0 p1 : Int) (o0 o1 sp : Bool) (a b lost : Int) (xs : List S54) (hn : xs.length = n) (h0 : 0 < n) (h16 : n ≤ 16) (hne : ¬ g = bl) (w : World) (hr : isRow w g) (hr' : rowAt w g = #[.int .i64 m, .int .i64 p0, .int .i64 p1, .bool o0, .bool o1, .bool sp, .int .u32 a, .int .u32 b, .slice (some ⟨bl, 0, none⟩) n cc, .int .i64 lost]) (hl : isRow w bl) (hl' : rowAt w bl = FT xs T) :
    Calls Try.prog 33 #[.pointer (some ⟨g, 0, none⟩)] w fun e w' => ∃ gc ob c T', e = .returned (.pointer (some ⟨gc, 0, none⟩)) ∧ n ≤ c ∧ w.heap.size ≤ gc ∧ w.heap.size ≤ ob ∧ ¬ gc = ob ∧ Row w' gc (#[.int .i64 m, .int .i64 p0, .int .i64 p1, .bool o0, .bool o1, .bool sp, .int .u32 a, .int .u32 b, .slice (some ⟨ob, 0, none⟩) n c, .int .i64 lost]) ∧ Row w' ob (FT xs T') ∧ Below w.heap.size w w' := by
  have hne' : ¬ bl = g := fun e => hne e.symm
  have HC := Lib.hid (fun (W : World) (h : isRow W bl) (h' : rowAt W bl = FT xs T) => clone_c bl n cc T xs hn h0 h16 W h h')
  have hB_0 : Below w.heap.size w w := Below.refl _ _
  have lg := hr.lt
  have ll := hl.lt
  have ne_V_X : ¬ g = w.heap.size := by omega
  have en_V_X : ¬ w.heap.size = g := by omega
  have ne_L_X : ¬ bl = w.heap.size := by omega
  have en_L_X : ¬ w.heap.size = bl := by omega
  go_enter Try.func33, Try.ntmps33
  go_wp2_with fail
  refine (HC.out _ (by go_simp) (by go_simp)).mono ?_
  rintro e v1 ⟨ob, c, T', rfl, hc, hob, ⟨O1, O1'⟩, hb1⟩
  have hob2 : w.heap.size + 1 ≤ ob := by simpa using hob
  obtain ⟨X_1, X_1'⟩ : Row v1 w.heap.size #[.int .i64 m, .int .i64 p0, .int .i64 p1, .bool o0, .bool o1, .bool sp, .int .u32 a, .int .u32 b, .slice (some ⟨bl, 0, none⟩) n cc, .int .i64 lost] := Row.step (by go_simp) (by go_simp) hb1
  have hB_1 : Below w.heap.size w v1 := bk (by go_simp) (by first | (go_simp; done) | (go_simp; omega)) hb1
  have n5 : ¬ ob = w.heap.size := by omega
  have n6 : ¬ w.heap.size = ob := by omega
  clear hb1 hr hr' hl hl' hob
  go_wp2
  go_ret
  exact ⟨w.heap.size, ob, c, T', rfl, hc, Nat.le_refl _, by omega, by omega, ⟨by go_simp, by go_simp⟩, ⟨by go_simp, by go_simp⟩, by go_simp⟩
end Go.Proofs.Ytkbaghblchlcnaa.Lr.Wd
namespace Go.Proofs.Ytkbaghblchlcnaa
section
variable {P : Program} {md : Region.Mode} {ops : Array Oper} {Q : Exit → Act → World → Prop} {S : World → Prop} {fuel : Nat} {listed : Array Bool} {a : Act} {w : World}
theorem tk (i : Nat) (oi : Oper) (v : Value) (hy : ∀ w, S w → (execOp a.eval oi).run P w = .ok (.value v) w) (h : wpAnyH P md ops Q S fuel (listed.setIfInBounds i true) (a.put oi.dst v) w)
    (hi : ops[i]? = some oi := by rfl) (hs : Region.noSelect ops = true := by kernel_rfl) (hf : Region.free md ops listed i = true := by kernel_rfl) (hr : (Region.ready md ops listed).contains i = true := by kernel_rfl)
    (hQ : ∀ c a w, Q (.panic c) (a.put oi.dst v) w → Q (.panic c) a w := by exact fun _ _ _ h => h) (hw : Region.wanted oi (yielded ops a.tmps) = true := by rfl) (hS : S w := by assumption) : wpAnyH P md ops Q S (fuel + 1) listed a w :=
  wpAnyH_take hi hs hf hr hQ (.inl ⟨hw, hy⟩) hS h
end
end Go.Proofs.Ytkbaghblchlcnaa
namespace Go.Proofs.Ytkbaghblchlcnaa.Lr.Wd
open Go.RowKit Go.Shelf Go.Proofs.YtkbaghblchlcnaaW.PrintWords Go.Proofs.Ytkbaghblchlcnaa.IAll
/-- the active priorities' words are words -/
def Ab (s : VS) : Prop := 0 ≤ s.a ∧ s.a ≤ 4294967295 ∧ 0 ≤ s.b ∧ s.b ≤ 4294967295
theorem ab_ack {s : VS} (h : Ab s) (gp : Int) : Ab (ackS s gp) := by
  obtain ⟨h1, h2, h3, h4⟩ := h
  unfold Ab ackS ackA ackB setA setB
  dsimp only
  refine ⟨?_, ?_, ?_, ?_⟩ <;> (split <;> (try split)) <;> first | assumption | exact (bits_u32_in _ _ _).1 | exact (bits_u32_in _ _ _).2
theorem ab_eoi {s : VS} (h : Ab s) (gp id : Int) : Ab (eoiS s gp id) := by
  obtain ⟨h1, h2, h3, h4⟩ := h
  unfold Ab eoiS eoiA eoiB dropA dropB
  dsimp only
  refine ⟨?_, ?_, ?_, ?_⟩ <;> (split <;> (try split) <;> (try split)) <;> first | assumption | exact (bits_u32_in _ _ _).1 | exact (bits_u32_in _ _ _).2
theorem ab_act {s : VS} (h : Ab s) (n : Nat) (d : Int) (ls : List S54) (r : Int) (wr : Bool) (x : Int) : Ab (actS n s d ls r wr x) := by
  unfold actS
  split
  · exact h
  split
  · exact h
  split
  · unfold doV
    repeat' split
    all_goals first | exact h | exact ab_ack h _ | exact ab_eoi h _ _
  · exact h
theorem runA_ab (n : Nat) (s : VS) (xs : List VA) (h : Ab s) : ∀ k : Nat, k ≤ xs.length → Ab (runA n s xs k)
  | 0, _ => by rw [runA_zero]; exact h
  | k + 1, hk => by
    rw [runA_succ n s xs k (by omega)]
    exact ab_act (runA_ab n s xs h k (by omega)) _ _ _ _ _ _
theorem same2_c {w : World} {lv lr cc d : Nat} {T : Array Value} {xs : List S54} (h16 : xs.length ≤ 16) (h : isRow w lv) (h' : rowAt w lv = FT xs T) (hc : xs.length ≤ cc) (hl : isRow w lr) (hl' : rowAt w lr = FA xs) (hd : xs.length ≤ d) :
    Calls Try.prog 21 #[.slice (some ⟨lv, 0, none⟩) xs.length cc, .slice (some ⟨lr, 0, none⟩) xs.length d] w fun e w' => e = .returned (.bool true) ∧ Below w.heap.size w w' :=
  same_c h16 h h' (ft_pre xs T) hc hl hl' hd
attribute [local go_sem] Oper.semAt_some cell_row frozen_row isRow_setCell_eq rowAt_setCell_same rowAt_setCell_other isRow_alloc_eq rowAt_alloc rowAt_new rowAt_new' isRow_setRow_eq rowAt_setRow_same rowAt_setRow_other isRow_drew rowAt_drew size_setRow_ Lb_size Lb_at blk_ptr aggOf_agg below_alloc_e below_setCell_e below_setRow_e below_refl_e below_drew_r aside2_alloc_e aside2_setCell_e aside2_setRow_e aside2_drew_e aside2_refl_e aside2_drewN_e isRow_drewN rowAt_drewN below_drewN_e le_add_r offv_ptr one_lad zero_lad allOne_nil allOne_cons Value.oneCell' addr_at FA_size one_FA RV_size RV_get70 RV_get71 RV_at70 RV_at71 RV_at5 RV_low RV_set71 RV_ext RV_spl RC_size zeroF zero_rc zero_rc2 RC_one
attribute [local go_sem ↓] storeI storeC storeE loadF0 loadF
attribute [local go_sem] eq2i eq2b eq2u
set_option maxRecDepth 100000 in
set_option maxHeartbeats 4000000 in
theorem alike_w (cc : Nat) (T : Array Value) (gv lv gr lr : Nat) (m p0 p1 : Int) (o0 o1 sp : Bool) (a b : Int) (xs : List S54) (lost : Int) (h16 : xs.length ≤ 16) (hcc : xs.length ≤ cc) (ha : 0 ≤ a) (ha' : a ≤ 4294967295) (hb : 0 ≤ b) (hb' : b ≤ 4294967295) (w : World)
    (v0 : isRow w gv) (v0' : rowAt w gv = #[.int .i64 m, .int .i64 p0, .int .i64 p1, .bool o0, .bool o1, .bool sp, .int .u32 a, .int .u32 b, .slice (some ⟨lv, 0, none⟩) xs.length cc, .int .i64 lost]) (l0 : isRow w lv) (l0' : rowAt w lv = FT xs T) (r0 : isRow w gr) (r0' : rowAt w gr = (RV (RC m p0 p1 o0 o1 sp (rb a b)) (.slice (some ⟨lr, 0, none⟩) xs.length xs.length) (.int .i64 lost))) (q0 : isRow w lr) (q0' : rowAt w lr = FA xs) (n12 : ¬ gv = lv) (n34 : ¬ gr = lr) :
    Calls Try.prog 32 #[.pointer (some ⟨gv, 0, none⟩), .pointer (some ⟨gr, 0, none⟩)] w fun e w' => e = .returned (.bool true) ∧ Below w.heap.size w w' := by
  have HAL := Lib.hid (fun W : World => Alike14_c m p0 p1 o0 o1 sp a b ha ha' hb hb' W)
  have HVB := Lib.hid (fun (W : World) (h1 : isRow W gv) (h1' : rowAt W gv = #[.int .i64 m, .int .i64 p0, .int .i64 p1, .bool o0, .bool o1, .bool sp, .int .u32 a, .int .u32 b, .slice (some ⟨lv, 0, none⟩) xs.length cc, .int .i64 lost]) (h2 : isRow W lv) (h2' : rowAt W lv = FT xs T) =>
    vBest_w gv lv m p0 p1 o0 o1 sp a b xs.length cc (FT xs T) lost (best xs).id (best xs).pr (best xs).gr (best xs).is W h1 h1' h2 h2' (Lib.hid (fun (W' : World) (h : isRow W' lv) (h' : rowAt W' lv = FT xs T) => vbest (cc := cc) h16 h h')))
  have HRB := Lib.hid (fun (W : World) (h : isRow W lr) (h' : rowAt W lr = FA xs) => (show _ from rbest h16 h h' : Calls Try.prog 58 #[.slice (some ⟨lr, 0, none⟩) xs.length xs.length] W fun e w' => e = .returned (.agg #[.int .i64 (best xs).id, .int .i64 (best xs).pr, .int .i64 (best xs).gr, .bool (best xs).is]) ∧ Below W.heap.size W w'))
  have HMV := Lib.hid (fun (W : World) (h1 : isRow W gv) (h1' : rowAt W gv = #[.int .i64 m, .int .i64 p0, .int .i64 p1, .bool o0, .bool o1, .bool sp, .int .u32 a, .int .u32 b, .slice (some ⟨lv, 0, none⟩) xs.length cc, .int .i64 lost]) (h2 : isRow W lv) (h2' : rowAt W lv = FT xs T) =>
    Misr_c gv lv m p0 p1 o0 o1 sp a b xs.length cc T xs rfl h16 hcc lost n12 W ⟨h1, h1'⟩ ⟨h2, h2'⟩)
  have HRV := Lib.hid (fun (W : World) (h1 : isRow W gv) (h1' : rowAt W gv = #[.int .i64 m, .int .i64 p0, .int .i64 p1, .bool o0, .bool o1, .bool sp, .int .u32 a, .int .u32 b, .slice (some ⟨lv, 0, none⟩) xs.length cc, .int .i64 lost]) (h2 : isRow W lv) (h2' : rowAt W lv = FT xs T) =>
    reasons_c gv lv m p0 p1 o0 o1 sp a b xs.length cc T xs rfl h16 hcc lost n12 W ⟨h1, h1'⟩ ⟨h2, h2'⟩)
  have HMR := Lib.hid (fun (W : World) (h1 : isRow W gr) (h1' : rowAt W gr = (RV (RC m p0 p1 o0 o1 sp (rb a b)) (.slice (some ⟨lr, 0, none⟩) xs.length xs.length) (.int .i64 lost))) (h2 : isRow W lr) (h2' : rowAt W lr = FA xs) =>
    rMisr_c gr lr _ RC_size xs h16 lost n34 W h1 h1' h2 h2')
  have HSM := Lib.hid (fun (W : World) (h1 : isRow W lv) (h1' : rowAt W lv = FT xs T) (h2 : isRow W lr) (h2' : rowAt W lr = FA xs) => same2_c (cc := cc) (d := xs.length) h16 h1 h1' hcc h2 h2' (Nat.le_refl _))
  generalize (best xs).id = z0 at *
  generalize (best xs).pr = z1 at *
  generalize (best xs).gr = z2 at *
  generalize (best xs).is = z3 at *
  generalize bitsOf (rsn xs lost 4) = z4 at *
  have hB_0 : Below w.heap.size w w := Below.refl _ _
  go_enter Try.func32, Try.ntmps32
  go_upto_region 1 with fail
  refine wp_region_held_drew (S := fun w' => isRow w' gv ∧ rowAt w' gv = #[.int .i64 m, .int .i64 p0, .int .i64 p1, .bool o0, .bool o1, .bool sp, .int .u32 a, .int .u32 b, .slice (some ⟨lv, 0, none⟩) xs.length cc, .int .i64 lost] ∧ isRow w' lv ∧ rowAt w' lv = (FT xs T) ∧ isRow w' gr ∧ rowAt w' gr = (RV (RC m p0 p1 o0 o1 sp (rb a b)) (.slice (some ⟨lr, 0, none⟩) xs.length xs.length) (.int .i64 lost)) ∧ isRow w' lr ∧ rowAt w' lr = (FA xs) ∧ Below w.heap.size w w') (by kernel_rfl) ⟨v0, v0', l0, l0', r0, r0', q0, q0', below_drew0 hB_0⟩ (fun hHeld => ?_)
  refine tk 0 ⟨some 5, .move (.tmp 0), 24, "law.go:71", #[], none⟩ ?_ ?_ ?_
  rotate_left
  · (intro w_ hS_; (try dsimp only at hS_); go_simp; try with_reducible rfl)
  try simp only [Act.put, List.setIfInBounds_toArray, List.set_cons_zero, List.set_cons_succ]
  refine tk 1 ⟨some 6, .nilCheck (.tmp 5), 0, "law.go:71", #[⟨0, .data⟩], none⟩ ?_ ?_ ?_
  rotate_left
  · (intro w_ hS_; (try dsimp only at hS_); go_simp; try with_reducible rfl)
  try simp only [Act.put, List.setIfInBounds_toArray, List.set_cons_zero, List.set_cons_succ]
  refine tk 2 ⟨some 7, .fieldAddr 37 (.tmp 6) 0, 0, "law.go:71", #[⟨1, .data⟩], none⟩ ?_ ?_ ?_
  rotate_left
  · (intro w_ hS_; (try dsimp only at hS_); go_simp; try with_reducible rfl)
  try simp only [Act.put, List.setIfInBounds_toArray, List.set_cons_zero, List.set_cons_succ]
  refine tk 3 ⟨some 8, .load 35 (.tmp 7), 35, "law.go:71", #[⟨2, .data⟩], none⟩ ?_ ?_ ?_
  rotate_left
  · (intro w_ hS_; (try dsimp only at hS_); go_simp; try with_reducible rfl)
  try simp only [Act.put, List.setIfInBounds_toArray, List.set_cons_zero, List.set_cons_succ]
  refine tk 4 ⟨some 9, .move (.tmp 1), 75, "law.go:71", #[], none⟩ ?_ ?_ ?_
  rotate_left
  · (intro w_ hS_; (try dsimp only at hS_); go_simp; try with_reducible rfl)
  try simp only [Act.put, List.setIfInBounds_toArray, List.set_cons_zero, List.set_cons_succ]
  refine tk 5 ⟨some 10, .nilCheck (.tmp 9), 0, "law.go:71", #[⟨4, .data⟩], none⟩ ?_ ?_ ?_
  rotate_left
  · (intro w_ hS_; (try dsimp only at hS_); go_simp; try with_reducible rfl)
  try simp only [Act.put, List.setIfInBounds_toArray, List.set_cons_zero, List.set_cons_succ]
  refine tk 6 ⟨some 11, .fieldAddr 110 (.tmp 10) 0, 0, "law.go:71", #[⟨5, .data⟩], none⟩ ?_ ?_ ?_
  rotate_left
  · (intro w_ hS_; (try dsimp only at hS_); go_simp; try with_reducible rfl)
  try simp only [Act.put, List.setIfInBounds_toArray, List.set_cons_zero, List.set_cons_succ]
  refine tk 7 ⟨some 12, .load 107 (.tmp 11), 107, "law.go:71", #[⟨6, .data⟩], none⟩ ?_ ?_ ?_
  rotate_left
  · (intro w_ hS_; (try dsimp only at hS_); go_simp; try with_reducible rfl)
  try simp only [Act.put, List.setIfInBounds_toArray, List.set_cons_zero, List.set_cons_succ]
  refine wpAnyH_ready (rs := [8]) (by kernel_rfl) (by simp) ?_
  refine AllReadyH.cons (o := ⟨some 13, .call ⟨.value (.func 57), #[.tmp 8, .tmp 12], #[35, 107]⟩, 4, "law.go:71", #[⟨3, .data⟩, ⟨7, .data⟩], none⟩) rfl (fun K hK => ?_) AllReadyH.nil
  go_simp
  (have hq_ := hHeld; (try dsimp only at hq_); go_split_ands)
  refine (HAL.out _).mono ?_
  rintro e w4 ⟨rfl, hb⟩
  refine hK.out _ _ ?_ (fun hHeld => ?_)
  · (go_split_ands; exact ⟨rk1 (by assumption) hb, rk2 (by assumption) (by assumption) hb, rk1 (by assumption) hb, rk2 (by assumption) (by assumption) hb, rk1 (by assumption) hb, rk2 (by assumption) (by assumption) hb, rk1 (by assumption) hb, rk2 (by assumption) (by assumption) hb, bk (by assumption) (Below.size (by assumption)) hb⟩)
  clear hK K
  try simp only [Act.put, List.setIfInBounds_toArray, List.set_cons_zero, List.set_cons_succ]
  refine tk 9 ⟨some 14, .move (.tmp 13), 4, "law.go:71", #[⟨8, .data⟩, ⟨8, .chain⟩], none⟩ ?_ ?_ ?_
  rotate_left
  · (intro w_ hS_; (try dsimp only at hS_); go_simp; try with_reducible rfl)
  try simp only [Act.put, List.setIfInBounds_toArray, List.set_cons_zero, List.set_cons_succ]
  refine tk 10 ⟨some 15, .move (.tmp 0), 24, "law.go:71", #[⟨9, .guard⟩], some (9, true)⟩ ?_ ?_ ?_
  rotate_left
  · (intro w_ hS_; (try dsimp only at hS_); go_simp; try with_reducible rfl)
  try simp only [Act.put, List.setIfInBounds_toArray, List.set_cons_zero, List.set_cons_succ]
  refine tk 11 ⟨some 16, .nilCheck (.tmp 15), 0, "law.go:71", #[⟨10, .data⟩, ⟨9, .guard⟩], some (9, true)⟩ ?_ ?_ ?_
  rotate_left
  · (intro w_ hS_; (try dsimp only at hS_); go_simp; try with_reducible rfl)
  try simp only [Act.put, List.setIfInBounds_toArray, List.set_cons_zero, List.set_cons_succ]
  refine tk 12 ⟨some 17, .fieldAddr 37 (.tmp 16) 1, 0, "law.go:71", #[⟨11, .data⟩, ⟨9, .guard⟩], some (9, true)⟩ ?_ ?_ ?_
  rotate_left
  · (intro w_ hS_; (try dsimp only at hS_); go_simp; try with_reducible rfl)
  try simp only [Act.put, List.setIfInBounds_toArray, List.set_cons_zero, List.set_cons_succ]
  refine tk 13 ⟨some 18, .load 22 (.tmp 17), 22, "law.go:71", #[⟨12, .data⟩, ⟨9, .guard⟩], some (9, true)⟩ ?_ ?_ ?_
  rotate_left
  · (intro w_ hS_; (try dsimp only at hS_); go_simp; try with_reducible rfl)
  try simp only [Act.put, List.setIfInBounds_toArray, List.set_cons_zero, List.set_cons_succ]
  refine tk 14 ⟨some 19, .move (.tmp 1), 75, "law.go:71", #[⟨9, .guard⟩], some (9, true)⟩ ?_ ?_ ?_
  rotate_left
  · (intro w_ hS_; (try dsimp only at hS_); go_simp; try with_reducible rfl)
  try simp only [Act.put, List.setIfInBounds_toArray, List.set_cons_zero, List.set_cons_succ]
  refine tk 15 ⟨some 20, .nilCheck (.tmp 19), 0, "law.go:71", #[⟨14, .data⟩, ⟨9, .guard⟩], some (9, true)⟩ ?_ ?_ ?_
  rotate_left
  · (intro w_ hS_; (try dsimp only at hS_); go_simp; try with_reducible rfl)
  try simp only [Act.put, List.setIfInBounds_toArray, List.set_cons_zero, List.set_cons_succ]
  refine tk 16 ⟨some 21, .fieldAddr 110 (.tmp 20) 1, 0, "law.go:71", #[⟨15, .data⟩, ⟨9, .guard⟩], some (9, true)⟩ ?_ ?_ ?_
  rotate_left
  · (intro w_ hS_; (try dsimp only at hS_); go_simp; try with_reducible rfl)
  try simp only [Act.put, List.setIfInBounds_toArray, List.set_cons_zero, List.set_cons_succ]
  refine tk 17 ⟨some 22, .load 22 (.tmp 21), 22, "law.go:71", #[⟨16, .data⟩, ⟨9, .guard⟩], some (9, true)⟩ ?_ ?_ ?_
  rotate_left
  · (intro w_ hS_; (try dsimp only at hS_); go_simp; try with_reducible rfl)
  try simp only [Act.put, List.setIfInBounds_toArray, List.set_cons_zero, List.set_cons_succ]
  refine wpAnyH_ready (rs := [18]) (by kernel_rfl) (by simp) ?_
  refine AllReadyH.cons (o := ⟨some 23, .call ⟨.value (.func 21), #[.tmp 18, .tmp 22], #[22, 22]⟩, 4, "law.go:71", #[⟨13, .data⟩, ⟨17, .data⟩, ⟨9, .chain⟩, ⟨9, .guard⟩], some (9, true)⟩) rfl (fun K hK => ?_) AllReadyH.nil
  go_simp
  (have hq_ := hHeld; (try dsimp only at hq_); go_split_ands)
  refine (HSM.out _ (by assumption) (by assumption) (by assumption) (by assumption)).mono ?_
  rintro e w4 ⟨rfl, hb⟩
  refine hK.out _ _ ?_ (fun hHeld => ?_)
  · (go_split_ands; exact ⟨rk1 (by assumption) hb, rk2 (by assumption) (by assumption) hb, rk1 (by assumption) hb, rk2 (by assumption) (by assumption) hb, rk1 (by assumption) hb, rk2 (by assumption) (by assumption) hb, rk1 (by assumption) hb, rk2 (by assumption) (by assumption) hb, bk (by assumption) (Below.size (by assumption)) hb⟩)
  clear hK K
  try simp only [Act.put, List.setIfInBounds_toArray, List.set_cons_zero, List.set_cons_succ]
  refine tk 19 ⟨some 24, .pick (.tmp 14) (.tmp 23) (.const (.bool false)), 4, "law.go:71", #[⟨9, .data⟩, ⟨18, .data⟩], none⟩ ?_ ?_ ?_
  rotate_left
  · (intro w_ hS_; (try dsimp only at hS_); go_simp; try with_reducible rfl)
  try simp only [Act.put, List.setIfInBounds_toArray, List.set_cons_zero, List.set_cons_succ]
  refine tk 20 ⟨some 25, .move (.tmp 24), 4, "law.go:71", #[⟨19, .data⟩, ⟨18, .chain⟩], none⟩ ?_ ?_ ?_
  rotate_left
  · (intro w_ hS_; (try dsimp only at hS_); go_simp; try with_reducible rfl)
  try simp only [Act.put, List.setIfInBounds_toArray, List.set_cons_zero, List.set_cons_succ]
  refine tk 21 ⟨some 26, .move (.tmp 0), 24, "law.go:71", #[⟨20, .guard⟩], some (20, true)⟩ ?_ ?_ ?_
  rotate_left
  · (intro w_ hS_; (try dsimp only at hS_); go_simp; try with_reducible rfl)
  try simp only [Act.put, List.setIfInBounds_toArray, List.set_cons_zero, List.set_cons_succ]
  refine tk 22 ⟨some 27, .nilCheck (.tmp 26), 0, "law.go:71", #[⟨21, .data⟩, ⟨20, .guard⟩], some (20, true)⟩ ?_ ?_ ?_
  rotate_left
  · (intro w_ hS_; (try dsimp only at hS_); go_simp; try with_reducible rfl)
  try simp only [Act.put, List.setIfInBounds_toArray, List.set_cons_zero, List.set_cons_succ]
  refine tk 23 ⟨some 28, .fieldAddr 37 (.tmp 27) 2, 0, "law.go:71", #[⟨22, .data⟩, ⟨20, .guard⟩], some (20, true)⟩ ?_ ?_ ?_
  rotate_left
  · (intro w_ hS_; (try dsimp only at hS_); go_simp; try with_reducible rfl)
  try simp only [Act.put, List.setIfInBounds_toArray, List.set_cons_zero, List.set_cons_succ]
  refine tk 24 ⟨some 29, .load 3 (.tmp 28), 3, "law.go:71", #[⟨23, .data⟩, ⟨20, .guard⟩], some (20, true)⟩ ?_ ?_ ?_
  rotate_left
  · (intro w_ hS_; (try dsimp only at hS_); go_simp; try with_reducible rfl)
  try simp only [Act.put, List.setIfInBounds_toArray, List.set_cons_zero, List.set_cons_succ]
  refine tk 25 ⟨some 30, .move (.tmp 1), 75, "law.go:71", #[⟨20, .guard⟩], some (20, true)⟩ ?_ ?_ ?_
  rotate_left
  · (intro w_ hS_; (try dsimp only at hS_); go_simp; try with_reducible rfl)
  try simp only [Act.put, List.setIfInBounds_toArray, List.set_cons_zero, List.set_cons_succ]
  refine tk 26 ⟨some 31, .nilCheck (.tmp 30), 0, "law.go:71", #[⟨25, .data⟩, ⟨20, .guard⟩], some (20, true)⟩ ?_ ?_ ?_
  rotate_left
  · (intro w_ hS_; (try dsimp only at hS_); go_simp; try with_reducible rfl)
  try simp only [Act.put, List.setIfInBounds_toArray, List.set_cons_zero, List.set_cons_succ]
  refine tk 27 ⟨some 32, .fieldAddr 110 (.tmp 31) 2, 0, "law.go:71", #[⟨26, .data⟩, ⟨20, .guard⟩], some (20, true)⟩ ?_ ?_ ?_
  rotate_left
  · (intro w_ hS_; (try dsimp only at hS_); go_simp; try with_reducible rfl)
  try simp only [Act.put, List.setIfInBounds_toArray, List.set_cons_zero, List.set_cons_succ]
  refine tk 28 ⟨some 33, .load 3 (.tmp 32), 3, "law.go:71", #[⟨27, .data⟩, ⟨20, .guard⟩], some (20, true)⟩ ?_ ?_ ?_
  rotate_left
  · (intro w_ hS_; (try dsimp only at hS_); go_simp; try with_reducible rfl)
  try simp only [Act.put, List.setIfInBounds_toArray, List.set_cons_zero, List.set_cons_succ]
  refine tk 29 ⟨some 34, .binOp .eql 3 (.tmp 29) (.tmp 33) 3, 4, "law.go:71", #[⟨24, .data⟩, ⟨28, .data⟩, ⟨20, .guard⟩], some (20, true)⟩ ?_ ?_ ?_
  rotate_left
  · (intro w_ hS_; (try dsimp only at hS_); go_simp; try with_reducible rfl)
  try simp only [Act.put, List.setIfInBounds_toArray, List.set_cons_zero, List.set_cons_succ]
  refine tk 30 ⟨some 35, .pick (.tmp 25) (.tmp 34) (.const (.bool false)), 4, "law.go:71", #[⟨20, .data⟩, ⟨29, .data⟩], none⟩ ?_ ?_ ?_
  rotate_left
  · (intro w_ hS_; (try dsimp only at hS_); go_simp; try with_reducible rfl)
  try simp only [Act.put, List.setIfInBounds_toArray, List.set_cons_zero, List.set_cons_succ]
  refine tk 31 ⟨some 36, .move (.tmp 35), 4, "law.go:71", #[⟨30, .data⟩, ⟨20, .chain⟩], none⟩ ?_ ?_ ?_
  rotate_left
  · (intro w_ hS_; (try dsimp only at hS_); go_simp; try with_reducible rfl)
  try simp only [Act.put, List.setIfInBounds_toArray, List.set_cons_zero, List.set_cons_succ]
  refine tk 32 ⟨some 37, .move (.tmp 0), 24, "law.go:71", #[⟨31, .guard⟩], some (31, true)⟩ ?_ ?_ ?_
  rotate_left
  · (intro w_ hS_; (try dsimp only at hS_); go_simp; try with_reducible rfl)
  try simp only [Act.put, List.setIfInBounds_toArray, List.set_cons_zero, List.set_cons_succ]
  refine tk 34 ⟨some 39, .move (.tmp 1), 75, "law.go:71", #[⟨31, .guard⟩], some (31, true)⟩ ?_ ?_ ?_
  rotate_left
  · (intro w_ hS_; (try dsimp only at hS_); go_simp; try with_reducible rfl)
  try simp only [Act.put, List.setIfInBounds_toArray, List.set_cons_zero, List.set_cons_succ]
  refine tk 35 ⟨some 40, .nilCheck (.tmp 39), 0, "law.go:71", #[⟨34, .data⟩, ⟨31, .guard⟩], some (31, true)⟩ ?_ ?_ ?_
  rotate_left
  · (intro w_ hS_; (try dsimp only at hS_); go_simp; try with_reducible rfl)
  try simp only [Act.put, List.setIfInBounds_toArray, List.set_cons_zero, List.set_cons_succ]
  refine tk 36 ⟨some 41, .fieldAddr 110 (.tmp 40) 1, 0, "law.go:71", #[⟨35, .data⟩, ⟨31, .guard⟩], some (31, true)⟩ ?_ ?_ ?_
  rotate_left
  · (intro w_ hS_; (try dsimp only at hS_); go_simp; try with_reducible rfl)
  try simp only [Act.put, List.setIfInBounds_toArray, List.set_cons_zero, List.set_cons_succ]
  refine tk 37 ⟨some 42, .load 22 (.tmp 41), 22, "law.go:71", #[⟨36, .data⟩, ⟨31, .guard⟩], some (31, true)⟩ ?_ ?_ ?_
  rotate_left
  · (intro w_ hS_; (try dsimp only at hS_); go_simp; try with_reducible rfl)
  try simp only [Act.put, List.setIfInBounds_toArray, List.set_cons_zero, List.set_cons_succ]
  refine wpAnyH_ready (rs := [33]) (by kernel_rfl) (by simp) ?_
  refine AllReadyH.cons (o := ⟨some 38, .call ⟨.value (.func 19), #[.tmp 37], #[24]⟩, 47, "law.go:71", #[⟨32, .data⟩, ⟨31, .chain⟩, ⟨31, .guard⟩], some (31, true)⟩) rfl (fun K hK => ?_) AllReadyH.nil
  go_simp
  (have hq_ := hHeld; (try dsimp only at hq_); go_split_ands)
  refine (HVB.out _ (by assumption) (by assumption) (by assumption) (by assumption)).mono ?_
  rintro e w4 ⟨rfl, hb⟩
  refine hK.out _ _ ?_ (fun hHeld => ?_)
  · (go_split_ands; exact ⟨rk1 (by assumption) hb, rk2 (by assumption) (by assumption) hb, rk1 (by assumption) hb, rk2 (by assumption) (by assumption) hb, rk1 (by assumption) hb, rk2 (by assumption) (by assumption) hb, rk1 (by assumption) hb, rk2 (by assumption) (by assumption) hb, bk (by assumption) (Below.size (by assumption)) hb⟩)
  clear hK K
  try simp only [Act.put, List.setIfInBounds_toArray, List.set_cons_zero, List.set_cons_succ]
  refine wpAnyH_ready (rs := [38]) (by kernel_rfl) (by simp) ?_
  refine AllReadyH.cons (o := ⟨some 43, .call ⟨.value (.func 58), #[.tmp 42], #[22]⟩, 47, "law.go:71", #[⟨37, .data⟩, ⟨33, .chain⟩, ⟨31, .guard⟩], some (31, true)⟩) rfl (fun K hK => ?_) AllReadyH.nil
  go_simp
  (have hq_ := hHeld; (try dsimp only at hq_); go_split_ands)
  refine (HRB.out _ (by assumption) (by assumption)).mono ?_
  rintro e w4 ⟨rfl, hb⟩
  refine hK.out _ _ ?_ (fun hHeld => ?_)
  · (go_split_ands; exact ⟨rk1 (by assumption) hb, rk2 (by assumption) (by assumption) hb, rk1 (by assumption) hb, rk2 (by assumption) (by assumption) hb, rk1 (by assumption) hb, rk2 (by assumption) (by assumption) hb, rk1 (by assumption) hb, rk2 (by assumption) (by assumption) hb, bk (by assumption) (Below.size (by assumption)) hb⟩)
  clear hK K
  try simp only [Act.put, List.setIfInBounds_toArray, List.set_cons_zero, List.set_cons_succ]
  refine tk 39 ⟨some 44, .binOp .eql 47 (.tmp 38) (.tmp 43) 47, 4, "law.go:71", #[⟨33, .data⟩, ⟨38, .data⟩, ⟨31, .guard⟩], some (31, true)⟩ ?_ ?_ ?_
  rotate_left
  · (intro w_ hS_; (try dsimp only at hS_); go_simp; try with_reducible rfl)
  try simp only [Act.put, List.setIfInBounds_toArray, List.set_cons_zero, List.set_cons_succ]
  refine tk 40 ⟨some 45, .pick (.tmp 36) (.tmp 44) (.const (.bool false)), 4, "law.go:71", #[⟨31, .data⟩, ⟨39, .data⟩], none⟩ ?_ ?_ ?_
  rotate_left
  · (intro w_ hS_; (try dsimp only at hS_); go_simp; try with_reducible rfl)
  try simp only [Act.put, List.setIfInBounds_toArray, List.set_cons_zero, List.set_cons_succ]
  refine tk 41 ⟨some 46, .move (.tmp 45), 4, "law.go:71", #[⟨40, .data⟩, ⟨38, .chain⟩], none⟩ ?_ ?_ ?_
  rotate_left
  · (intro w_ hS_; (try dsimp only at hS_); go_simp; try with_reducible rfl)
  try simp only [Act.put, List.setIfInBounds_toArray, List.set_cons_zero, List.set_cons_succ]
  refine tk 42 ⟨some 47, .move (.tmp 0), 24, "law.go:71", #[⟨41, .guard⟩], some (41, true)⟩ ?_ ?_ ?_
  rotate_left
  · (intro w_ hS_; (try dsimp only at hS_); go_simp; try with_reducible rfl)
  try simp only [Act.put, List.setIfInBounds_toArray, List.set_cons_zero, List.set_cons_succ]
  refine tk 44 ⟨some 49, .move (.tmp 1), 75, "law.go:71", #[⟨41, .guard⟩], some (41, true)⟩ ?_ ?_ ?_
  rotate_left
  · (intro w_ hS_; (try dsimp only at hS_); go_simp; try with_reducible rfl)
  try simp only [Act.put, List.setIfInBounds_toArray, List.set_cons_zero, List.set_cons_succ]
  refine wpAnyH_ready (rs := [43]) (by kernel_rfl) (by simp) ?_
  refine AllReadyH.cons (o := ⟨some 48, .call ⟨.value (.func 35), #[.tmp 47], #[24]⟩, 67, "law.go:71", #[⟨42, .data⟩, ⟨41, .chain⟩, ⟨41, .guard⟩], some (41, true)⟩) rfl (fun K hK => ?_) AllReadyH.nil
  go_simp
  (have hq_ := hHeld; (try dsimp only at hq_); go_split_ands)
  refine (HMV.out _ (by assumption) (by assumption) (by assumption) (by assumption)).mono ?_
  rintro e w4 ⟨rfl, hb⟩
  refine hK.out _ _ ?_ (fun hHeld => ?_)
  · (go_split_ands; exact ⟨rk1 (by assumption) hb, rk2 (by assumption) (by assumption) hb, rk1 (by assumption) hb, rk2 (by assumption) (by assumption) hb, rk1 (by assumption) hb, rk2 (by assumption) (by assumption) hb, rk1 (by assumption) hb, rk2 (by assumption) (by assumption) hb, bk (by assumption) (Below.size (by assumption)) hb⟩)
  clear hK K
  try simp only [Act.put, List.setIfInBounds_toArray, List.set_cons_zero, List.set_cons_succ]
  refine wpAnyH_ready (rs := [45]) (by kernel_rfl) (by simp) ?_
  refine AllReadyH.cons (o := ⟨some 50, .call ⟨.value (.func 59), #[.tmp 49], #[75]⟩, 67, "law.go:71", #[⟨44, .data⟩, ⟨43, .chain⟩, ⟨41, .guard⟩], some (41, true)⟩) rfl (fun K hK => ?_) AllReadyH.nil
  go_simp
  (have hq_ := hHeld; (try dsimp only at hq_); go_split_ands)
  refine (HMR.out _ (by assumption) (by assumption) (by assumption) (by assumption)).mono ?_
  rintro e w4 ⟨rfl, hb⟩
  refine hK.out _ _ ?_ (fun hHeld => ?_)
  · (go_split_ands; exact ⟨rk1 (by assumption) hb, rk2 (by assumption) (by assumption) hb, rk1 (by assumption) hb, rk2 (by assumption) (by assumption) hb, rk1 (by assumption) hb, rk2 (by assumption) (by assumption) hb, rk1 (by assumption) hb, rk2 (by assumption) (by assumption) hb, bk (by assumption) (Below.size (by assumption)) hb⟩)
  clear hK K
  try simp only [Act.put, List.setIfInBounds_toArray, List.set_cons_zero, List.set_cons_succ]
  refine tk 46 ⟨some 51, .binOp .eql 67 (.tmp 48) (.tmp 50) 67, 4, "law.go:71", #[⟨43, .data⟩, ⟨45, .data⟩, ⟨41, .guard⟩], some (41, true)⟩ ?_ ?_ ?_
  rotate_left
  · (intro w_ hS_; (try dsimp only at hS_); go_simp; try with_reducible rfl)
  try simp only [Act.put, List.setIfInBounds_toArray, List.set_cons_zero, List.set_cons_succ]
  refine tk 47 ⟨some 52, .pick (.tmp 46) (.tmp 51) (.const (.bool false)), 4, "law.go:71", #[⟨41, .data⟩, ⟨46, .data⟩], none⟩ ?_ ?_ ?_
  rotate_left
  · (intro w_ hS_; (try dsimp only at hS_); go_simp; try with_reducible rfl)
  try simp only [Act.put, List.setIfInBounds_toArray, List.set_cons_zero, List.set_cons_succ]
  refine tk 48 ⟨some 53, .move (.tmp 52), 4, "law.go:71", #[⟨47, .data⟩, ⟨45, .chain⟩], none⟩ ?_ ?_ ?_
  rotate_left
  · (intro w_ hS_; (try dsimp only at hS_); go_simp; try with_reducible rfl)
  try simp only [Act.put, List.setIfInBounds_toArray, List.set_cons_zero, List.set_cons_succ]
  refine tk 49 ⟨some 54, .move (.tmp 0), 24, "law.go:71", #[⟨48, .guard⟩], some (48, true)⟩ ?_ ?_ ?_
  rotate_left
  · (intro w_ hS_; (try dsimp only at hS_); go_simp; try with_reducible rfl)
  try simp only [Act.put, List.setIfInBounds_toArray, List.set_cons_zero, List.set_cons_succ]
  refine tk 51 ⟨some 56, .move (.tmp 1), 75, "law.go:71", #[⟨48, .guard⟩], some (48, true)⟩ ?_ ?_ ?_
  rotate_left
  · (intro w_ hS_; (try dsimp only at hS_); go_simp; try with_reducible rfl)
  try simp only [Act.put, List.setIfInBounds_toArray, List.set_cons_zero, List.set_cons_succ]
  refine wpAnyH_ready (rs := [50]) (by kernel_rfl) (by simp) ?_
  refine AllReadyH.cons (o := ⟨some 55, .call ⟨.value (.func 60), #[.tmp 54], #[24]⟩, 67, "law.go:71", #[⟨49, .data⟩, ⟨48, .chain⟩, ⟨48, .guard⟩], some (48, true)⟩) rfl (fun K hK => ?_) AllReadyH.nil
  go_simp
  (have hq_ := hHeld; (try dsimp only at hq_); go_split_ands)
  refine (HRV.out _ (by assumption) (by assumption) (by assumption) (by assumption)).mono ?_
  rintro e w4 ⟨rfl, hb⟩
  refine hK.out _ _ ?_ (fun hHeld => ?_)
  · (go_split_ands; exact ⟨rk1 (by assumption) hb, rk2 (by assumption) (by assumption) hb, rk1 (by assumption) hb, rk2 (by assumption) (by assumption) hb, rk1 (by assumption) hb, rk2 (by assumption) (by assumption) hb, rk1 (by assumption) hb, rk2 (by assumption) (by assumption) hb, bk (by assumption) (Below.size (by assumption)) hb⟩)
  clear hK K
  try simp only [Act.put, List.setIfInBounds_toArray, List.set_cons_zero, List.set_cons_succ]
  refine wpAnyH_ready (rs := [52]) (by kernel_rfl) (by simp) ?_
  refine AllReadyH.cons (o := ⟨some 57, .call ⟨.value (.func 59), #[.tmp 56], #[75]⟩, 67, "law.go:71", #[⟨51, .data⟩, ⟨50, .chain⟩, ⟨48, .guard⟩], some (48, true)⟩) rfl (fun K hK => ?_) AllReadyH.nil
  go_simp
  (have hq_ := hHeld; (try dsimp only at hq_); go_split_ands)
  refine (HMR.out _ (by assumption) (by assumption) (by assumption) (by assumption)).mono ?_
  rintro e w4 ⟨rfl, hb⟩
  refine hK.out _ _ ?_ (fun hHeld => ?_)
  · (go_split_ands; exact ⟨rk1 (by assumption) hb, rk2 (by assumption) (by assumption) hb, rk1 (by assumption) hb, rk2 (by assumption) (by assumption) hb, rk1 (by assumption) hb, rk2 (by assumption) (by assumption) hb, rk1 (by assumption) hb, rk2 (by assumption) (by assumption) hb, bk (by assumption) (Below.size (by assumption)) hb⟩)
  clear hK K
  try simp only [Act.put, List.setIfInBounds_toArray, List.set_cons_zero, List.set_cons_succ]
  refine tk 53 ⟨some 58, .binOp .eql 67 (.tmp 55) (.tmp 57) 67, 4, "law.go:71", #[⟨50, .data⟩, ⟨52, .data⟩, ⟨48, .guard⟩], some (48, true)⟩ ?_ ?_ ?_
  rotate_left
  · (intro w_ hS_; (try dsimp only at hS_); go_simp; try with_reducible rfl)
  try simp only [Act.put, List.setIfInBounds_toArray, List.set_cons_zero, List.set_cons_succ]
  refine tk 54 ⟨some 59, .pick (.tmp 53) (.tmp 58) (.const (.bool false)), 4, "law.go:71", #[⟨48, .data⟩, ⟨53, .data⟩], none⟩ ?_ ?_ ?_
  rotate_left
  · (intro w_ hS_; (try dsimp only at hS_); go_simp; try with_reducible rfl)
  try simp only [Act.put, List.setIfInBounds_toArray, List.set_cons_zero, List.set_cons_succ]
  refine tk 55 ⟨some 4, .assign (.tmp 59), 4, "law.go:71", #[⟨54, .data⟩, ⟨52, .chain⟩, ⟨0, .phase⟩, ⟨1, .phase⟩, ⟨2, .phase⟩, ⟨3, .phase⟩, ⟨4, .phase⟩, ⟨5, .phase⟩, ⟨6, .phase⟩, ⟨7, .phase⟩, ⟨8, .phase⟩, ⟨9, .phase⟩, ⟨10, .phase⟩, ⟨11, .phase⟩, ⟨12, .phase⟩, ⟨13, .phase⟩, ⟨14, .phase⟩, ⟨15, .phase⟩, ⟨16, .phase⟩, ⟨17, .phase⟩, ⟨18, .phase⟩, ⟨19, .phase⟩, ⟨20, .phase⟩, ⟨21, .phase⟩, ⟨22, .phase⟩, ⟨23, .phase⟩, ⟨24, .phase⟩, ⟨25, .phase⟩, ⟨26, .phase⟩, ⟨27, .phase⟩, ⟨28, .phase⟩, ⟨29, .phase⟩, ⟨30, .phase⟩, ⟨31, .phase⟩, ⟨32, .phase⟩, ⟨33, .phase⟩, ⟨34, .phase⟩, ⟨35, .phase⟩, ⟨36, .phase⟩, ⟨37, .phase⟩, ⟨38, .phase⟩, ⟨39, .phase⟩, ⟨40, .phase⟩, ⟨41, .phase⟩, ⟨42, .phase⟩, ⟨43, .phase⟩, ⟨44, .phase⟩, ⟨45, .phase⟩, ⟨46, .phase⟩, ⟨47, .phase⟩, ⟨48, .phase⟩, ⟨49, .phase⟩, ⟨50, .phase⟩, ⟨51, .phase⟩, ⟨52, .phase⟩, ⟨53, .phase⟩, ⟨54, .phase⟩], none⟩ ?_ ?_ ?_
  rotate_left
  · (intro w_ hS_; (try dsimp only at hS_); go_simp; try with_reducible rfl)
  try simp only [Act.put, List.setIfInBounds_toArray, List.set_cons_zero, List.set_cons_succ]
  refine wpAnyH_done (by kernel_rfl) ?_ _
  (try dsimp only at hHeld)
  go_split_ands
  go_wp2
  go_ret
  exact ⟨rfl, by go_simp⟩
end Go.Proofs.Ytkbaghblchlcnaa.Lr.Wd
namespace Go.Proofs.Ytkbaghblchlcnaa.Lr
open Go.RowKit Go.Shelf Go.Proofs.YtkbaghblchlcnaaW.PrintWords Go.Proofs.Ytkbaghblchlcnaa.IAll
theorem vdo_n (n g bl : Nat) (s : VS) (h : SOk n s) (hne : ¬ g = bl) (w : World) (hl : isRow w bl) (hl' : rowAt w bl = FA s.xs) (hr : isRow w g) (hr' : rowAt w g = vrow n bl s) (r : Int) (wr : Bool) (x : Int) :
    Calls Try.prog 28 #[.pointer (some ⟨g, 0, none⟩), .int .i64 r, .bool wr, .int .u64 x] w fun e w' => e = .returned (.tuple #[.int .u64 (doV s r wr x).2.n, .agg #[.bool (doV s r wr x).2.ok, .int .i64 (doV s r wr x).2.mm], .bool (doV s r wr x).2.is]) ∧
      Row w' g (vrow n bl (doV s r wr x).1) ∧ Row w' bl (FA (doV s r wr x).1.xs) ∧ Aside2 g bl w w' := by
  have q := Wd.vdo_c n g bl n #[] s h hne w hl (by rw [FT_nil]; exact hl') hr hr' r wr x
  rw [FT_nil] at q
  exact q
theorem vload_n (n g bl : Nat) (s : VS) (h : SOk n s) (hne : ¬ g = bl) (w : World) (hl : isRow w bl) (hl' : rowAt w bl = FA s.xs) (A : Option Addr) (c : Nat) (ls : List S54) (hC : Kd.C k54 w A ls.length ls) (hc : ls.length ≤ c)
    (hA : ∀ ad, A = some ad → 0 < ls.length → ad.block < w.heap.size ∧ ad.block ≠ bl) (hr : isRow w g) (hr' : rowAt w g = vrow n bl s) :
    Calls Try.prog 16 #[.pointer (some ⟨g, 0, none⟩), .slice A ls.length c] w fun e w' => e = .returned (.int .i64 (loadN n ls)) ∧ Row w' g (vrow n bl (loadS n s ls)) ∧ Row w' bl (FA (loadS n s ls).xs) ∧ Aside2 g bl w w' := by
  have q := Wd.vload_c n g bl n #[] s h hne w hl (by rw [FT_nil]; exact hl') A c ls hC hc hA hr hr'
  rw [FT_nil] at q
  exact q
theorem Misr_n (g bl : Nat) (m p0 p1 : Int) (o0 o1 sp : Bool) (a b : Int) (n : Nat) (xs : List S54) (hn : xs.length = n) (h16 : n ≤ 16) (lost : Int) (hne : ¬ g = bl) (w : World) (hr : Row w g #[.int .i64 m, .int .i64 p0, .int .i64 p1, .bool o0, .bool o1, .bool sp, .int .u32 a, .int .u32 b, .slice (some ⟨bl, 0, none⟩) n n, .int .i64 lost]) (hl : Row w bl (FA xs)) :
    Calls Try.prog 35 #[.pointer (some ⟨g, 0, none⟩)] w fun e w' => e = .returned (.int .u64 (bitsOf (rsn xs lost 4))) ∧ Below w.heap.size w w' :=
  Wd.Misr_c g bl m p0 p1 o0 o1 sp a b n n #[] xs hn h16 (Nat.le_refl _) lost hne w hr (by rw [FT_nil]; exact hl)
theorem exdo_w (n g bl : Nat) (s s' : VS) (h : SOk n s) (hne : ¬ g = bl) (r : Int) (wr : Bool) (x : Int) (a : Int) (b : Bool) (c : Int) (d : Bool) (e1 : (doV s r wr x).1 = s') (e2 : (doV s r wr x).2 = ⟨a, b, c, d⟩) (w : World) (hl : isRow w bl) (hl' : rowAt w bl = FA s.xs) (hr : isRow w g) (hr' : rowAt w g = vrow n bl s) :
    Calls Try.prog 28 #[.pointer (some ⟨g, 0, none⟩), .int .i64 r, .bool wr, .int .u64 x] w fun e w' => e = .returned (.tuple #[.int .u64 a, .agg #[.bool b, .int .i64 c], .bool d]) ∧ Row w' g (vrow n bl s') ∧ Row w' bl (FA s'.xs) ∧ Aside2 g bl w w' := by
  have q := vdo_n n g bl s h hne w hl hl' hr hr' r wr x
  rw [e1, e2] at q
  exact q
attribute [local go_sem] Oper.semAt_some cell_row frozen_row isRow_setCell_eq rowAt_setCell_same rowAt_setCell_other isRow_alloc_eq rowAt_alloc rowAt_new rowAt_new' isRow_setRow_eq rowAt_setRow_same rowAt_setRow_other isRow_drew rowAt_drew size_setRow_ Lb_size Lb_at blk_ptr aggOf_agg below_alloc_e below_setCell_e below_setRow_e below_refl_e below_drew_r aside2_alloc_e aside2_setCell_e aside2_setRow_e aside2_drew_e aside2_refl_e aside2_drewN_e isRow_drewN rowAt_drewN below_drewN_e le_add_r offv_ptr one_lad zero_lad allOne_nil allOne_cons Value.oneCell' addr_at FA_size one_FA
attribute [local go_sem ↓] storeI storeC storeE storeLm
attribute [local go_sem] eq2i eq2b eq2u
set_option maxRecDepth 100000 in
set_option maxHeartbeats 4000000 in
theorem awake_w (w : World) : Calls Try.prog 11 #[] w fun e w' => e = .returned (.bool true) ∧ Below w.heap.size w w' := by
  have n1 : ¬ w.heap.size = w.heap.size + 1 := by omega
  have n2 : ¬ w.heap.size + 1 = w.heap.size := by omega
  go_enter Try.func11, Try.ntmps11
  go_wp2_with fail
  refine (VNew_c 2 (by omega) (by omega) _).mono ?_
  rintro e v0 ⟨rfl, ⟨Va, Va'⟩, ⟨La, La'⟩, hb1⟩
  unfold vrow at Va'
  have hz1 : w.heap.size ≤ v0.heap.size := hb1.size
  have l1 := Va.lt
  have n3 : ¬ v0.heap.size = w.heap.size := by omega
  have n4 : ¬ w.heap.size = v0.heap.size := by omega
  have n5 : ¬ v0.heap.size = w.heap.size + 1 := by omega
  have n6 : ¬ w.heap.size + 1 = v0.heap.size := by omega
  have ne_V_X : ¬ w.heap.size + 1 = v0.heap.size := by omega
  have en_V_X : ¬ v0.heap.size = w.heap.size + 1 := by omega
  have ne_L_X : ¬ w.heap.size = v0.heap.size := by omega
  have en_L_X : ¬ v0.heap.size = w.heap.size := by omega
  go_wp2_with fail
  refine calls_named (fun W_ => (isRow W_ (w.heap.size + 1) ∧ rowAt W_ (w.heap.size + 1) = #[.int .i64 248, .int .i64 0, .int .i64 0, .bool false, .bool true, .bool false, .int .u32 0, .int .u32 0, .slice (some ⟨w.heap.size, 0, none⟩) 2 2, .int .i64 0]) ∧ (isRow W_ w.heap.size ∧ rowAt W_ w.heap.size = (FA (List.replicate 2 z54))) ∧ (isRow W_ v0.heap.size ∧ rowAt W_ v0.heap.size = #[.int .i64 1, .int .i64 40, .int .i64 160, .int .i64 1, .bool false, .int .i64 0, .bool false]) ∧ Below w.heap.size w W_) (by refine ⟨⟨by go_simp, by go_simp⟩, ⟨by go_simp, by go_simp⟩, ⟨by go_simp, by go_simp⟩, by go_simp⟩) ?_
  rintro v1 ⟨⟨V_1, V_1'⟩, ⟨L_1, L_1'⟩, ⟨X_1, X_1'⟩, hB_1⟩
  clear Va Va' La La' hb1
  have hz_1 : w.heap.size ≤ v1.heap.size := hB_1.size
  have hl_V_1 := isRow.lt V_1
  have ne_V_1_0 : ¬ w.heap.size + 1 = v1.heap.size := by omega
  have en_V_1_0 : ¬ v1.heap.size = w.heap.size + 1 := by omega
  have hl_L_1 := isRow.lt L_1
  have ne_L_1_0 : ¬ w.heap.size = v1.heap.size := by omega
  have en_L_1_0 : ¬ v1.heap.size = w.heap.size := by omega
  have hl_X_1 := isRow.lt X_1
  have ne_X_1_0 : ¬ v0.heap.size = v1.heap.size := by omega
  have en_X_1_0 : ¬ v1.heap.size = v0.heap.size := by omega
  have hO : SOk 2 (ex0 (List.replicate 2 z54) 0 0 0) := ex_ok _ _ _ _ rfl (rep_st 2) (by omega) (by omega)
  refine (vload_n 2 (w.heap.size + 1) w.heap.size (ex0 (List.replicate 2 z54) 0 0 0) hO n2 v1 L_1 L_1' (some ⟨v0.heap.size, 0, none⟩) 1 [exL] (fa_kd X_1 X_1' (by decide)) (by decide) (fun ad e _ => by
    obtain rfl := Option.some.inj e
    exact ⟨X_1.lt, n3⟩) V_1 V_1').mono ?_
  rw [ex_loadN]
  unfold loadS
  rw [ex_loadXs]
  rintro e v2 ⟨rfl, ⟨V_2, V_2'⟩, ⟨L_2, L_2'⟩, hA2⟩
  have hB_2 : Below w.heap.size w v2 := hA2.below hB_1 (by omega) (Nat.le_refl _) hB_1.size
  go_wp2_with fail
  have hO2 : SOk 2 (ex0 [exL, z54] 0 0 0) := ex_ok _ _ _ _ rfl (fun k hk => by
    have hk' : k < 2 := hk
    rcases (show k = 0 ∨ k = 1 by omega) with rfl | rfl <;> decide) (by omega) (by omega)
  refine (vdo_n 2 (w.heap.size + 1) w.heap.size (ex0 [exL, z54] 0 0 0) hO2 n2 v2 L_2 L_2' V_2 V_2' 2 false 0).mono ?_
  rw [ex1]
  rintro e v3 ⟨rfl, ⟨V_3, V_3'⟩, ⟨L_3, L_3'⟩, hA3⟩
  have hB_3 : Below w.heap.size w v3 := hA3.below hB_2 (by omega) (Nat.le_refl _) hB_2.size
  clear hA2 hA3 V_2 V_2' L_2 L_2' V_1 V_1' L_1 L_1' X_1 X_1' hB_1 hB_2 hO hO2
  unfold vrow ex0 at V_3'
  replace L_3' : rowAt v3 w.heap.size = #[.int .i64 2, .int .i64 40, .int .i64 160, .int .i64 1, .bool false, .int .i64 0, .bool false, .int .i64 0, .int .i64 0, .int .i64 0, .int .i64 0, .bool false, .int .i64 0, .bool false] := L_3'
  have l3 := V_3.lt
  have n7 : ¬ w.heap.size + 1 = v3.heap.size := by omega
  have n8 : ¬ v3.heap.size = w.heap.size + 1 := by omega
  have n9 : ¬ w.heap.size = v3.heap.size := by omega
  have n10 : ¬ v3.heap.size = w.heap.size := by omega
  have n11 : w.heap.size ≤ v3.heap.size := hB_3.size
  go_wp2_with fail
  refine (Misr_n (w.heap.size + 1) w.heap.size 248 0 0 false true false 0 1048576 2 [exA, z54] rfl (by omega) 0 n2 _ ⟨by go_simp, by go_simp⟩ (show Row _ w.heap.size #[.int .i64 2, .int .i64 40, .int .i64 160, .int .i64 1, .bool false, .int .i64 0, .bool false, .int .i64 0, .int .i64 0, .int .i64 0, .int .i64 0, .bool false, .int .i64 0, .bool false] from ⟨by go_simp, by go_simp⟩)).mono ?_
  rw [ex2]
  rintro e v4 ⟨rfl, hb4⟩
  obtain ⟨V_4, V_4'⟩ : Row v4 (w.heap.size + 1) (vrow 2 w.heap.size (ex0 [exA, z54] 0 1048576 0)) := show Row v4 (w.heap.size + 1) #[.int .i64 248, .int .i64 0, .int .i64 0, .bool false, .bool true, .bool false, .int .u32 0, .int .u32 1048576, .slice (some ⟨w.heap.size, 0, none⟩) 2 2, .int .i64 0] from Row.step (by go_simp) (by go_simp) hb4
  obtain ⟨L_4, L_4'⟩ : Row v4 w.heap.size (FA [exA, z54]) := show Row v4 w.heap.size #[.int .i64 2, .int .i64 40, .int .i64 160, .int .i64 1, .bool false, .int .i64 0, .bool false, .int .i64 0, .int .i64 0, .int .i64 0, .int .i64 0, .bool false, .int .i64 0, .bool false] from Row.step (by go_simp) (by go_simp) hb4
  have hB_4 : Below w.heap.size w v4 := bk (by go_simp) (by first | (go_simp; done) | (go_simp; omega)) hb4
  clear hb4 V_3 V_3' L_3 L_3' hB_3
  go_wp2_with fail
  refine (exdo_w 2 (w.heap.size + 1) w.heap.size (ex0 [exA, z54] 0 1048576 0) ex3s exA_ok n2 4 true 40 0 true (-1) true rfl ex3 _ L_4 L_4' V_4 V_4').mono ?_
  rintro e v1 ⟨rfl, ⟨V_1, V_1'⟩, ⟨L_1, L_1'⟩, hA1⟩
  have hB_1 : Below w.heap.size w v1 := hA1.below (by go_simp) (by first | omega | (go_simp; done) | (go_simp; omega)) (by first | omega | (go_simp; done) | (go_simp; omega)) (by first | (go_simp; done) | (go_simp; omega) | exact Below.size (by assumption))
  clear V_4 V_4' L_4 L_4' hB_4 hA1
  have hz_1 : w.heap.size ≤ v1.heap.size := hB_1.size
  have hl_V_1 := isRow.lt V_1
  have ne_V_1_0 : ¬ w.heap.size + 1 = v1.heap.size := by omega
  have en_V_1_0 : ¬ v1.heap.size = w.heap.size + 1 := by omega
  have ne_V_1_1 : ¬ w.heap.size + 1 = v1.heap.size + 1 := by omega
  have en_V_1_1 : ¬ v1.heap.size + 1 = w.heap.size + 1 := by omega
  have hl_L_1 := isRow.lt L_1
  have ne_L_1_0 : ¬ w.heap.size = v1.heap.size := by omega
  have en_L_1_0 : ¬ v1.heap.size = w.heap.size := by omega
  have ne_L_1_1 : ¬ w.heap.size = v1.heap.size + 1 := by omega
  have en_L_1_1 : ¬ v1.heap.size + 1 = w.heap.size := by omega
  have ne_V_X : ¬ w.heap.size + 1 = v1.heap.size := by omega
  have en_V_X : ¬ v1.heap.size = w.heap.size + 1 := by omega
  have ne_L_X : ¬ w.heap.size = v1.heap.size := by omega
  have en_L_X : ¬ v1.heap.size = w.heap.size := by omega
  go_wp2_with fail
  refine (exdo_w 2 (w.heap.size + 1) w.heap.size ex3s ex4s ex3_ok n2 2 false 0 1023 false (-1) true rfl ex4 _ (by go_simp) (by go_simp) (by go_simp) (by go_simp)).mono ?_
  rintro e v2 ⟨rfl, ⟨V_2, V_2'⟩, ⟨L_2, L_2'⟩, hA2⟩
  obtain ⟨X_2, X_2'⟩ : Row v2 v1.heap.size #[.bool true, .int .i64 (-1)] := hA2.row ⟨by go_simp, by go_simp⟩ (by omega) (by omega)
  have hB_2 : Below w.heap.size w v2 := hA2.below (by go_simp) (by first | omega | (go_simp; done) | (go_simp; omega)) (by first | omega | (go_simp; done) | (go_simp; omega)) (by first | (go_simp; done) | (go_simp; omega) | exact Below.size (by assumption))
  clear V_1 V_1' L_1 L_1' hB_1 hA2
  have hz_2 : w.heap.size ≤ v2.heap.size := hB_2.size
  have hl_V_2 := isRow.lt V_2
  have ne_V_2_0 : ¬ w.heap.size + 1 = v2.heap.size := by omega
  have en_V_2_0 : ¬ v2.heap.size = w.heap.size + 1 := by omega
  have ne_V_2_1 : ¬ w.heap.size + 1 = v2.heap.size + 1 := by omega
  have en_V_2_1 : ¬ v2.heap.size + 1 = w.heap.size + 1 := by omega
  have hl_L_2 := isRow.lt L_2
  have ne_L_2_0 : ¬ w.heap.size = v2.heap.size := by omega
  have en_L_2_0 : ¬ v2.heap.size = w.heap.size := by omega
  have ne_L_2_1 : ¬ w.heap.size = v2.heap.size + 1 := by omega
  have en_L_2_1 : ¬ v2.heap.size + 1 = w.heap.size := by omega
  have hl_X_2 := isRow.lt X_2
  have ne_X_2_0 : ¬ v1.heap.size = v2.heap.size := by omega
  have en_X_2_0 : ¬ v2.heap.size = v1.heap.size := by omega
  have ne_X_2_1 : ¬ v1.heap.size = v2.heap.size + 1 := by omega
  have en_X_2_1 : ¬ v2.heap.size + 1 = v1.heap.size := by omega
  go_wp2_with fail
  refine (exdo_w 2 (w.heap.size + 1) w.heap.size ex4s ex5s ex4_ok n2 4 true 50 0 false (-1) true rfl ex5 _ (by go_simp) (by go_simp) (by go_simp) (by go_simp)).mono ?_
  rintro e v3 ⟨rfl, ⟨V_3, V_3'⟩, ⟨L_3, L_3'⟩, hA3⟩
  obtain ⟨X_3, X_3'⟩ : Row v3 v1.heap.size #[.bool true, .int .i64 (-1)] := hA3.row ⟨by go_simp, by go_simp⟩ (by omega) (by omega)
  have hB_3 : Below w.heap.size w v3 := hA3.below (by go_simp) (by first | omega | (go_simp; done) | (go_simp; omega)) (by first | omega | (go_simp; done) | (go_simp; omega)) (by first | (go_simp; done) | (go_simp; omega) | exact Below.size (by assumption))
  clear V_2 V_2' L_2 L_2' X_2 X_2' hB_2 hA3
  have hz_3 : w.heap.size ≤ v3.heap.size := hB_3.size
  have hl_V_3 := isRow.lt V_3
  have ne_V_3_0 : ¬ w.heap.size + 1 = v3.heap.size := by omega
  have en_V_3_0 : ¬ v3.heap.size = w.heap.size + 1 := by omega
  have ne_V_3_1 : ¬ w.heap.size + 1 = v3.heap.size + 1 := by omega
  have en_V_3_1 : ¬ v3.heap.size + 1 = w.heap.size + 1 := by omega
  have hl_L_3 := isRow.lt L_3
  have ne_L_3_0 : ¬ w.heap.size = v3.heap.size := by omega
  have en_L_3_0 : ¬ v3.heap.size = w.heap.size := by omega
  have ne_L_3_1 : ¬ w.heap.size = v3.heap.size + 1 := by omega
  have en_L_3_1 : ¬ v3.heap.size + 1 = w.heap.size := by omega
  have hl_X_3 := isRow.lt X_3
  have ne_X_3_0 : ¬ v1.heap.size = v3.heap.size := by omega
  have en_X_3_0 : ¬ v3.heap.size = v1.heap.size := by omega
  have ne_X_3_1 : ¬ v1.heap.size = v3.heap.size + 1 := by omega
  have en_X_3_1 : ¬ v3.heap.size + 1 = v1.heap.size := by omega
  go_wp2
  go_ret
  exact ⟨rfl, by go_simp⟩
end Go.Proofs.Ytkbaghblchlcnaa.Lr
namespace Go.Proofs.Ytkbaghblchlcnaa
open Go.ChangeShapes Go.WideShapes Go.ChangeAt Go.RowKit
inductive Sh where
  | int (k : IntKind)
  | bool
  | str
  | slice (t : TypeId)
/-- the leaves of a type: where each stands among its cells, and of what make it is -/
def leaves (P : Program) : Nat → TypeId → List (Nat × Sh)
  | 0, _ => []
  | d + 1, t =>
    match P.underlying t with
    | some (.int k) => [(0, .int k)]
    | some .bool => [(0, .bool)]
    | some .string => [(0, .str)]
    | some (.slice _) => [(0, .slice t)]
    | some (.struct fs) => fs.toList.flatMap fun f => (leaves P d f.type).map fun x => (f.offset + x.1, x.2)
    | some (.array n e) => (List.range n).flatMap fun i => (leaves P d e).map fun x => (i * P.cellsOf e + x.1, x.2)
    | _ => []
section
variable {H : Type} {enc : TypeId × Value → H} {P : Program} {w : World} {base : Nat} {spare : Nat → Bool} {held : Bool}
def LeafOk (enc : TypeId × Value → H) (P : Program) (w : World) (base : Nat) (spare : Nat → Bool) (held : Bool) : Sh → Value → Prop
  | .int k, v => ∃ n, v = .int k n ∧ (Lit.int k n).wf = true
  | .bool, v => ∃ b, v = .bool b
  | .str, v => ∃ s : ByteArray, v = .string s ∧ s.size ≤ maxLen
  | .slice t, v => ∃ m x, DataW.trod enc P w base spare held m t [v] = some x
theorem mapM_each {α β : Type} (f : α → Option β) : ∀ (l : List α) (ys : List β), l.mapM f = some ys → ∀ a ∈ l, ∃ y, f a = some y := by
  intro l
  induction l with
  | nil => intro ys _ a ha; cases ha
  | cons b l ih =>
    intro ys h a ha
    rw [List.mapM_cons] at h
    cases hb : f b with
    | none => simp [hb] at h
    | some y =>
      cases hl : l.mapM f with
      | none => simp [hb, hl] at h
      | some zs =>
        rcases List.mem_cons.mp ha with rfl | hm
        · exact ⟨y, hb⟩
        · exact ih zs hl a hm
theorem piece_at {cs : List Value} {o n i : Nat} {v : Value} (h : ((cs.drop o).take n)[i]? = some v) : cs[o + i]? = some v := by
  rw [List.getElem?_take] at h
  split at h
  · rwa [List.getElem?_drop] at h
  · cases h
theorem struct_each {fs : Array Field} {t : TypeId} {m : Nat} {cs : List Value} {x : DataW H × List MemPlace} (hu : P.underlying t = some (.struct fs)) (h : DataW.trod enc P w base spare held (m + 1) t cs = some x) :
    ∃ xs, (fs.toList.mapM fun f => DataW.trod enc P w base spare held m f.type ((cs.drop f.offset).take (P.cellsOf f.type))) = some xs := by
  unfold DataW.trod at h
  rw [hu] at h
  split at h <;> simp_all
  obtain ⟨_, a, ha, _⟩ := h
  exact ⟨a, ha⟩
theorem array_each {e : TypeId} {n : Nat} {t : TypeId} {m : Nat} {cs : List Value} {x : DataW H × List MemPlace} (hu : P.underlying t = some (.array n e)) (h : DataW.trod enc P w base spare held (m + 1) t cs = some x) :
    ∃ xs, ((List.range n).mapM fun i => DataW.trod enc P w base spare held m e ((cs.drop (i * P.cellsOf e)).take (P.cellsOf e))) = some xs := by
  unfold DataW.trod at h
  rw [hu] at h
  split at h <;> simp_all
  obtain ⟨_, a, ha, _⟩ := h
  exact ⟨a, ha⟩
theorem leaf_ok (d : Nat) : ∀ (fuel : Nat) (t : TypeId) (cs : List Value) (x : DataW H × List MemPlace), DataW.trod enc P w base spare held fuel t cs = some x →
    ∀ o s, (o, s) ∈ leaves P d t → ∃ v, cs[o]? = some v ∧ LeafOk enc P w base spare held s v := by
  induction d with
  | zero => intro fuel t cs x _ o s hm; cases hm
  | succ d ih =>
    intro fuel t cs x h o s hm
    cases fuel with
    | zero => simp [DataW.trod] at h
    | succ m =>
      rw [leaves] at hm
      split at hm
      · rename_i k hu
        simp at hm; obtain ⟨rfl, rfl⟩ := hm
        obtain ⟨n, hc, _, hw⟩ := DataW.trod_int hu h
        subst hc
        exact ⟨_, rfl, n, rfl, hw⟩
      · rename_i hu
        simp at hm; obtain ⟨rfl, rfl⟩ := hm
        unfold DataW.trod at h
        rw [hu] at h
        split at h <;> simp_all
        exact ⟨_, rfl⟩
      · rename_i hu
        simp at hm; obtain ⟨rfl, rfl⟩ := hm
        unfold DataW.trod at h
        rw [hu] at h
        split at h <;> simp_all
        exact ⟨_, rfl, h.1⟩
      · rename_i e hu
        simp at hm; obtain ⟨rfl, rfl⟩ := hm
        have h' := h
        unfold DataW.trod at h
        rw [hu] at h
        split at h <;> first | (simp_all; done) | exact ⟨_, rfl, _, _, h'⟩
      · rename_i fs hu
        have hs := struct_each hu h
        obtain ⟨xs, hxs⟩ := hs
        simp only [List.mem_flatMap, List.mem_map] at hm
        obtain ⟨f, hf, ⟨o', s'⟩, hmem, heq⟩ := hm
        simp only [Prod.mk.injEq] at heq
        obtain ⟨rfl, rfl⟩ := heq
        obtain ⟨y, hy⟩ := mapM_each _ _ _ hxs f hf
        obtain ⟨v, hv, hok⟩ := ih m f.type _ y hy o' s' hmem
        exact ⟨v, piece_at hv, hok⟩
      · rename_i n e hu
        have hs := array_each hu h
        obtain ⟨xs, hxs⟩ := hs
        simp only [List.mem_flatMap, List.mem_map] at hm
        obtain ⟨i, hi, ⟨o', s'⟩, hmem, heq⟩ := hm
        simp only [Prod.mk.injEq] at heq
        obtain ⟨rfl, rfl⟩ := heq
        obtain ⟨y, hy⟩ := mapM_each _ _ _ hxs i hi
        obtain ⟨v, hv, hok⟩ := ih m e _ y hy o' s' hmem
        exact ⟨v, piece_at hv, hok⟩
      · cases hm
/-- All arguments read behind a call that leaves alone what lay as they read before. -/
theorem trodAll_back (hl : laidOutB P = true) {W W' : World} (hb : Below W.heap.size W W') : ∀ (ts : List TypeId) (vs : List Value) (ds : List (DataW H)) (ps : List MemPlace),
    (∀ t ∈ ts, P.readableRec t = true ∧ t < P.types.size) → DataW.TrodAll enc P W 0 (fun _ => true) true ts vs ds ps →
    DataW.TrodAll enc P W' 0 (fun b => decide (b < W.heap.size)) true ts vs ds ps
  | [], [], [], _, _, h => h
  | t :: ts, v :: vs, d :: ds, ps, hr, h => by
    obtain ⟨p, q, h1, h2, rfl⟩ := h
    refine ⟨p, q, Below.trod hl (hr t (by simp)).1 (hr t (by simp)).2 h1 hb ?_, trodAll_back hl hb ts vs ds q (fun t ht => hr t (by simp [ht])) h2, rfl⟩
    obtain ⟨m, hm⟩ := h1
    exact DataW.trod_lt m _ _ _ hm
  | [], _ :: _, _, _, _, h => by cases h
  | [], [], _ :: _, _, _, h => by cases h
  | _ :: _, [], _, _, _, h => by cases h
  | _ :: _, _ :: _, [], _, _, h => by cases h
end
end Go.Proofs.Ytkbaghblchlcnaa
namespace Go.Proofs.Ytkbaghblchlcnaa
open Go.ChangeShapes Go.WideShapes Go.ChangeAt Go.RowKit
section
variable {H : Type} {enc : TypeId × Value → H} {P : Program} {w : World} {base : Nat} {spare : Nat → Bool} {held : Bool}
theorem add_add_ (a : Addr) (i j : Nat) : a.add (i + j) = (a.add i).add j := by
  unfold Addr.add
  by_cases hi : i = 0 <;> by_cases hj : j = 0 <;> simp [hi, hj, Nat.add_assoc]
theorem list_of {α : Type} (Q : Nat → α → Prop) (n : Nat) (h : ∀ i, i < n → ∃ x, Q i x) : ∃ xs : List α, xs.length = n ∧ ∀ i x, xs[i]? = some x → Q i x := by
  induction n with
  | zero => exact ⟨[], rfl, by simp⟩
  | succ n ih =>
    obtain ⟨xs, hl, hq⟩ := ih fun i hi => h i (by omega)
    obtain ⟨x, hx⟩ := h n (by omega)
    refine ⟨xs ++ [x], by simp [hl], fun i y hy => ?_⟩
    rw [List.getElem?_append] at hy
    split at hy
    · exact hq i y hy
    · rename_i hge
      have : i = n := by
        have := (List.getElem?_eq_some_iff.1 hy).1
        simp at this; omega
      subst this
      rw [hl] at hy
      simp at hy
      exact hy ▸ hx
end
end Go.Proofs.Ytkbaghblchlcnaa
