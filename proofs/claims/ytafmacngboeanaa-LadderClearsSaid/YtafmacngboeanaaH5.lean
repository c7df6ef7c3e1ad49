/- Contracts by hand of layer 8: a loop over what runs in one group. -/
import Derived.Test.YtafmacngboeanaaH4
namespace Go.Proofs.Ytafmacngboeanaa
open Go.RowKit Go.Shelf
attribute [local go_sem] Oper.semAt_some

theorem Only_c (a b g : Int) (w : World) : Calls Try.prog 31 #[.agg #[.int .u32 a, .int .u32 b], .int .i64 g] w fun e w' => e = .returned (.func (.func 33) #[] #[.pointer (some ⟨w.heap.size, 0, none⟩), .pointer (some ⟨w.heap.size + 1, 0, none⟩)]) ∧ (w.alloc (.cells #[.int .u32 a, .int .u32 b] 26)).alloc (.cells #[.int .i64 g] 3) = w' := by
  go_enter Try.func31, Try.ntmps31
  go_wp2
  go_ret
  exact ⟨rfl, rfl⟩

/-- the priorities of one group -/
def onlyOf (g : Int) (l : List (Int × Int)) : List Int := l.filterMap fun x => if x.2 = g then some x.1 else none
theorem onlyOf_hit (g : Int) (pre : List (Int × Int)) (x : Int × Int) (h : x.2 = g) : onlyOf g (pre ++ [x]) = onlyOf g pre ++ [x.1] := by simp [onlyOf, h]
theorem onlyOf_miss (g : Int) (pre : List (Int × Int)) (x : Int × Int) (h : ¬ x.2 = g) : onlyOf g (pre ++ [x]) = onlyOf g pre := by simp [onlyOf, h]
theorem onlyOf_at (g : Int) (pre : List (Int × Int)) (x : Int × Int) (post : List (Int × Int)) (h : x.2 = g) : onlyOf g (pre ++ x :: post) = onlyOf g pre ++ x.1 :: onlyOf g post := by simp [onlyOf, h]

set_option maxRecDepth 100000 in
set_option maxHeartbeats 1000000 in
theorem only_iter (Pv : Obj → Prop) (hPv : ∀ o : Obj, o.isCells = false → Pv o) (S : Nat → Prop) (T : TypeId → Prop) (hT26 : T 26) (hT68 : T 68) (a b g : Int) (Bl Bg : Nat) (W0 : World) (hSg : S Bg) (hS : ∀ k, S k → k < W0.heap.size)
    (hcl : BoxN W0 Bl 26 #[.int .u32 a, .int .u32 b]) (hcg : Boxed W0 Bg 3 (.int .i64 g)) :
    Iter Pv Try.prog 33 #[.pointer (some ⟨Bl, 0, none⟩), .pointer (some ⟨Bg, 0, none⟩)] (fun x : Int => #[.int .i64 x]) (KeepsS S T) (onlyOf g (allL a b)) W0 := by
  intro l J Jx W hW hJ hJx hY h0
  have hl1 : BoxN W Bl 26 #[.int .u32 a, .int .u32 b] := (hW.block Bl hcl.lt).trans hcl
  have hg1 : Boxed W Bg 3 (.int .i64 g) := (hW.block Bg hcg.lt).trans hcg
  have hSW : ∀ k, S k → k < W.heap.size := fun k hk => Nat.lt_of_lt_of_le (hS k hk) hW.size
  clear hcl hcg
  have c0 := hl1.cell (i := 0) rfl
  have c1 := hl1.cell (i := 1) rfl
  refine callsIn_of_wp_marks Try.func33 rfl trivial ?_ rfl
  simp only [Try.ntmps33, List.size_toArray, List.length_cons, List.length_nil, Nat.reduceAdd, Nat.reduceSub, Array.replicate_succ, Array.replicate_zero, List.push_toArray, List.append_toArray, List.nil_append, List.cons_append]
  have d0 : (W.alloc (.cells #[.func (.yield l) #[] #[]] 68)).cell? ⟨Bl, 0, none⟩ = some (.int .u32 a) := (hl1.alloc _).cell (i := 0) rfl
  have d1 : (W.alloc (.cells #[.func (.yield l) #[] #[]] 68)).cell? ⟨Bl, 1, none⟩ = some (.int .u32 b) := (hl1.alloc _).cell (i := 1) rfl
  gi_wp2_with (gi_at_call 25; refine (in_of_calls (All_c _ _ _)).mono ?_; rintro e w' ⟨rfl, rfl⟩)
  have hSl1 : Bl < W.heap.size := hl1.lt
  generalize hW1 : (W.alloc (.cells #[.func (.yield l) #[] #[]] 68)).alloc (.cells #[.int .u32 a, .int .u32 b] 26) = W1
  have hs1 : W1.heap.size = W.heap.size + 2 := by rw [← hW1]; simp
  have hy1 : BoxN W1 W.heap.size 68 #[.func (.yield l) #[] #[]] := by rw [← hW1]; exact (BoxN.new W 68 _).alloc _
  have hm1 : BoxN W1 (W.heap.size + 1) 26 #[.int .u32 a, .int .u32 b] := by
    rw [← hW1]; have := BoxN.new (W.alloc (.cells #[.func (.yield l) #[] #[]] 68)) 26 #[.int .u32 a, .int .u32 b]; rwa [World.size_alloc] at this
  have hgg : Boxed W1 Bg 3 (.int .i64 g) := by rw [← hW1]; exact (hg1.alloc _).alloc _
  have hB1 : Below W.heap.size W W1 := by rw [← hW1]; exact ((Below.refl _ W).alloc (Nat.le_refl _) _).alloc (by simp) _
  have hj1 : J [] W1 := by rw [← hW1]; exact hJ.new _ (hJ.new _ h0)
  have hBgW : Bg < W.heap.size := hg1.lt
  clear d0 d1 c0 c1 hl1 hg1 h0
  have hS' : ∀ k, (S k ∨ k = W.heap.size ∨ k = W.heap.size + 1) → k < W1.heap.size := by
    rintro k (h | h | h)
    · have := hSW k h; omega
    · omega
    · omega
  refine wp_range (Pv := Pv) hPv rfl (enters_of Try.func32 (by kernel_rfl) rfl) (all_iter Pv (fun k => S k ∨ k = W.heap.size ∨ k = W.heap.size + 1) T a b (W.heap.size + 1) W1 (.inr (.inr rfl)) hm1) (Below.refl _ _)
    (fun h k => h.trans k) (KeepsS.put hS') (fun _ => rfl)
    (fun pre X => J (onlyOf g pre) X ∧ KeepsS (fun k => S k ∨ k = W.heap.size ∨ k = W.heap.size + 1) T W1 X)
    (fun c pre X => c = .ret ∧ (∃ p x, pre = p ++ [x] ∧ x.2 = g) ∧ Jx (onlyOf g pre) X)
    (((hJ.mono (by omega)).comp _).and (OwnP.keeps Pv (Nat.le_refl _) hS'))
    (fun c => (OwnP.const _ _ _).and ((OwnP.const _ _ _).and ((hJx.mono (by omega)).comp _)))
    ⟨hj1, KeepsS.refl _ _ _⟩ ?round ?done ?stop
  case round =>
    rintro l2 pre x post X hxs hl2 hlt2 ⟨hj, hk⟩
    clear hj1 hW1
    gi_wp2
    refine ⟨KeepsFrom.refl _ _, KeepsS.refl _ _ _, ⟨hj, hk⟩, ?_⟩
    clear hj hk
    rintro X2 hg2 ⟨hj, hk⟩
    have hyb := (hk.boxN (.inr (.inl rfl)) hy1).cell (i := 0) rfl
    have hgb := (hk.boxed (.inl hSg) hgg).cell
    have hxsz : W1.heap.size ≤ X2.heap.size := hk.size
    by_cases hx : x.2 = g
    · have hd : (x.2 == g) = true := by simpa using hx
      have hit1 := onlyOf_hit g pre x hx
      have hats := onlyOf_at g pre x post hx
      rw [← hxs] at hats
      obtain ⟨fn, tmps, assign, body, hy, hR⟩ := hY _ _ _ X2 hats hj
      have HX := Lib.hid hx
      have HH := Lib.hid hit1
      clear hx hxs hats hit1 hg2 hlt2 hl2
      gi_wp2
      refine hR.mono ?_
      rintro e X3 ⟨(⟨rfl, hJ3, hk3⟩ | ⟨rfl, hJx3⟩), hf3⟩
      · gi_wp2
        have hk4 : KeepsS (fun k => S k ∨ k = W.heap.size ∨ k = W.heap.size + 1) T X2 X3 := by
          refine hk3.less ?_ (fun _ h => h)
          rintro k (h | rfl | rfl)
          · exact .inl h
          · exact .inr ⟨_, _, _, hT68, hk.boxN (.inr (.inl rfl)) hy1⟩
          · exact .inr ⟨_, _, _, hT26, hk.boxN (.inr (.inr rfl)) hm1⟩
        refine ⟨⟨hf3.size, fun k o h1 h2 h3 => hf3.same k o (by omega) h2 h3⟩, hk4, ?_, hk.trans hk4⟩
        rw [HH.out]; exact hJ3
      · gi_wp2
        refine ⟨⟨hf3.size, fun k o h1 h2 h3 => hf3.same k o (by omega) h2 h3⟩, rfl, ⟨pre, x, rfl, HX.out⟩, ?_⟩
        rw [HH.out]; exact hJx3
    · have hd : (x.2 == g) = false := by simpa using hx
      have HH := Lib.hid (onlyOf_miss g pre x hx)
      clear hx hxs hg2 hlt2 hl2
      gi_wp2
      refine ⟨KeepsFrom.refl _ _, KeepsS.refl _ _ _, ?_, hk⟩
      rw [HH.out]; exact hj
  case done =>
    rintro D X hD ⟨hj, hk⟩ hK
    gi_wp2
    refine leave_mark hK (v := .tuple #[]) (by simp [results, Try.results33, go_sem]) ⟨⟨_, rfl⟩, .inl ?_⟩
    exact hJ.put _ hj (by omega) hK (hPv _ rfl)
  case stop =>
    rintro D c pre x post X hxs hD ⟨rfl, ⟨p, y, hp, hyg⟩, hjx⟩ hK
    obtain ⟨rfl, rfl⟩ : pre = p ∧ x = y := by simpa using hp
    rw [onlyOf_hit _ _ _ hyg] at hjx
    have hats := onlyOf_at g pre x post hyg
    rw [← hxs] at hats
    have HA := Lib.hid hats
    clear hats hxs hyg hp
    gi_wp2
    refine leave_mark hK (v := .tuple #[]) (by simp [results, Try.results33, go_sem]) ⟨⟨_, rfl⟩, .inr ?_⟩
    refine ⟨_, _, _, HA.out, ?_⟩
    exact hJx.put _ hjx (by omega) hK (hPv _ rfl)

theorem onlyOf_length (a b g : Int) : (onlyOf g (allL a b)).length ≤ 64 := Nat.le_trans (List.length_filterMap_le _ _) (allL_length a b)

set_option maxRecDepth 100000 in
set_option maxHeartbeats 1000000 in
theorem only_c (a b g : Int) (w : World) : Calls Try.prog 22 #[.agg #[.int .u32 a, .int .u32 b], .int .i64 g] w fun e w' => ∃ v, e = .returned v ∧ w'.ownsRow w.heap.size 3 1 v (onlyOf g (allL a b)).length ((onlyOf g (allL a b)).map (Value.int .i64)) ∧ Below w.heap.size w w' := by
  obtain ⟨i0, hi, hz0, hz1, hz2⟩ := info_parts info3
  refine calls_of_wide ?_
  refine callsIn_of_wp_marks Try.func22 rfl trivial ?_ rfl
  simp only [Try.ntmps22, List.size_toArray, List.length_cons, List.length_nil, Nat.reduceAdd, Nat.reduceSub, Array.replicate_succ, Array.replicate_zero, List.push_toArray, List.append_toArray, List.nil_append, List.cons_append]
  gi_wp2_with (gi_at_call 31; refine (in_of_calls (Only_c _ _ _ _)).mono ?_; rintro e w' ⟨rfl, rfl⟩)
  generalize hW1 : ((((w.alloc (.cells #[.int .u32 a, .int .u32 b] 26)).alloc (.cells #[.slice none 0 0] 51)).alloc (.cells #[.int .u32 a, .int .u32 b] 26)).alloc (.cells #[.int .i64 g] 3)) = W1
  have hs1 : W1.heap.size = w.heap.size + 4 := by rw [← hW1]; simp
  have bN : Boxed W1 (w.heap.size + 1) 51 (.slice none 0 0) := by
    rw [← hW1]; have := ((Boxed.new (w.alloc (.cells #[.int .u32 a, .int .u32 b] 26)) 51 (.slice none 0 0)).alloc (.cells #[.int .u32 a, .int .u32 b] 26)).alloc (.cells #[.int .i64 g] 3); rwa [World.size_alloc] at this
  have bM : BoxN W1 (w.heap.size + 2) 26 #[.int .u32 a, .int .u32 b] := by
    rw [← hW1]; have := (BoxN.new ((w.alloc (.cells #[.int .u32 a, .int .u32 b] 26)).alloc (.cells #[.slice none 0 0] 51)) 26 #[.int .u32 a, .int .u32 b]).alloc (.cells #[.int .i64 g] 3); simpa using this
  have bG : Boxed W1 (w.heap.size + 3) 3 (.int .i64 g) := by
    rw [← hW1]; have := Boxed.new (((w.alloc (.cells #[.int .u32 a, .int .u32 b] 26)).alloc (.cells #[.slice none 0 0] 51)).alloc (.cells #[.int .u32 a, .int .u32 b] 26)) 3 (.int .i64 g); simpa using this
  have hB0 : Below w.heap.size w W1 := by
    rw [← hW1]; exact (((Below.refl _ w).alloc (Nat.le_refl _) _).alloc (by simp) _).alloc (by simp; omega) _ |>.alloc (by simp; omega) _
  have hSs : ∀ k, (k = w.heap.size + 2 ∨ k = w.heap.size + 3) → k < W1.heap.size := by omega
  refine wp_range (Pv := NoCells) (fun _ h => h) rfl (enters_of Try.func33 (by kernel_rfl) rfl) (only_iter NoCells (fun _ h => h) (fun k => k = w.heap.size + 2 ∨ k = w.heap.size + 3) (fun t => t = 26 ∨ t = 68) (.inl rfl) (.inr rfl) a b g (w.heap.size + 2) (w.heap.size + 3) W1 (.inr rfl) hSs bM bG) (Below.refl _ _)
    (fun h k => h.trans k) (KeepsS.put hSs) (fun _ => rfl)
    (fun pre W => (∃ v, Boxed W (w.heap.size + 1) 51 v ∧ W.ownsRow (w.heap.size + 4) 3 1 v pre.length (pre.map (Value.int .i64)) ∧ True) ∧ Below w.heap.size w W) (fun _ _ _ => False)
    ((OwnP.of_own (holdsRow_own (w.heap.size + 4) (w.heap.size + 1) 51 3 1 _ _ _) _).and (OwnP.below NoCells (by omega) (by omega))) (fun _ => OwnP.const _ _ (fun _ => False))
    ⟨⟨_, bN, World.ownsRow_nil _ _ _ _, trivial⟩, hB0⟩ ?round ?done ?stop
  case round =>
    rintro l pre x post W hxs hl hlt ⟨⟨v, hb, hrow, -⟩, hB⟩
    clear bN bM bG hB0 hW1
    gi_wp2
    refine ⟨KeepsFrom.refl _ _, KeepsS.refl _ _ _, ⟨⟨v, hb, hrow, trivial⟩, hB⟩, ?_⟩
    clear hb hrow hB
    rintro W2 hg ⟨⟨v, hb, hrow, -⟩, hB⟩
    have hle : pre.length + 1 ≤ 64 := by
      have h := onlyOf_length a b g
      rw [hxs] at h; simp at h; omega
    have hsz : w.heap.size + 4 ≤ W2.heap.size := by have := hg.size; omega
    have hd : decide ((200 : Int) < (pre.length : Int) + 1) = false := decide_eq_false (by omega)
    clear hxs hl hlt hg
    have hc := hb.cell
    gi_wp2_with (gi_at_builtin; refine wpListIn_append_own _ rfl _ _ 51 rfl (w.heap.size + 4) 3 i0 (.int .i64 0) 1 8 Try.underlying51 hi hz0 hz1 hz2 rfl (by decide) _ _ _ rfl (hrow.alloc _) ⟨W2.heap.size, 0, none⟩ 1 1 [.int .i64 x] rfl rfl (cell_one_new _ _ _) (by simp [Value.oneCell']) (by unfold maxLen; omega) (by omega) (by simp; omega) ?_; intro v' w1 hown' hgrow _; obtain ⟨g', cap', rfl⟩ := ownsRow_succ hown'; obtain ⟨hv1, hv2, hr2, hk2, hb2, hs2⟩ := box_append hb (by decide) hrow hown' hgrow; have hc1 := hv1.cell; have hf1 := hv1.frozen; have hc2 := hv2.cell)
    exact ⟨hk2.from _, hs2 _ _ (fun i e => by omega) (by decide) (by decide), ⟨_, hv2, by simpa using hr2, trivial⟩, hB.trans (hb2 _ (by omega) (by omega) (by omega))⟩
  case done =>
    rintro D W hD ⟨⟨v, hb, hrow, -⟩, hB⟩ hK
    have hc := hb.cell
    gi_wp2
    refine leave_mark hK (v := v) (by simp [results, Try.results22, go_sem]) ⟨v, rfl, ownsRow_lower (ownsRow_putObj hrow _ hK rfl) (by omega), below_putD hB (by omega) _⟩
  case stop =>
    rintro D c pre x post W _ _ h _
    exact h.elim
end Go.Proofs.Ytafmacngboeanaa
