/-
  A law for a loop over an iterator function, and the iterator's contract 'Iter'. Own work of this repository.
  'Iter': the iterator hands the elements of one fixed list to yield, in order, till a round says no more. What the loop's own invariant says must abide the turn of blocks of the kinds 'Pv' (all that is no cells is among them) that lie at or beyond the heap's size at the call.
-/
import Derived.RangeFuncNested
import Derived.RangeFuncBound
import Derived.RangeFuncCalls
import Derived.RangeFuncLeaves
import Derived.Shelf.Abstract
import Derived.Shelf.RegionOpen
import Derived.WalkKit
import Derived.OwnWalkIn
import Derived.TacticsInMore
import Derived.LoopNIn
import Derived.LoopIn
import Derived.Lib.Hide
import Derived.Deep.Draws
namespace Go.Proofs.Ytbglgblngfbhbaa
open Go.RowKit

/-- An invariant abides the turn of a block of the kinds Pv that lies at or beyond B, and new blocks. -/
def OwnP {β : Type} (Pv : Obj → Prop) (B : Nat) (I : β → World → Prop) : Prop :=
  ∀ s W W' row, I s W → W.grownBy W' row → (∀ r, row = some r → B ≤ r ∧ ∃ o : Obj, W.heap[r]? = some o ∧ Pv o) → I s W'

theorem OwnP.put {β : Type} {Pv : Obj → Prop} {B : Nat} {I : β → World → Prop} (h : OwnP Pv B I) {s : β} {W : World} {l : Nat} {o : Obj} (o' : Obj)
    (hs : I s W) (hB : B ≤ l) (hl : W.heap[l]? = some o) (ho : Pv o) : I s (W.putObj l o') :=
  h s W _ (some l) hs (grownBy_putObj' W l o') (fun r e => by cases e; exact ⟨hB, o, hl, ho⟩)

theorem OwnP.new {β : Type} {Pv : Obj → Prop} {B : Nat} {I : β → World → Prop} (h : OwnP Pv B I) {s : β} {W : World} (o : Obj) (hs : I s W) : I s (W.alloc o) :=
  h s W _ none hs (World.grownBy_alloc W o none) (fun r e => by cases e)

theorem OwnP.and {β : Type} {Pv : Obj → Prop} {B : Nat} {I I' : β → World → Prop} (h : OwnP Pv B I) (h' : OwnP Pv B I') : OwnP Pv B (fun s W => I s W ∧ I' s W) :=
  fun s W W' row hs hg hr => ⟨h s W W' row hs.1 hg hr, h' s W W' row hs.2 hg hr⟩

theorem OwnP.comp {β γ : Type} {Pv : Obj → Prop} {B : Nat} {I : γ → World → Prop} (h : OwnP Pv B I) (f : β → γ) : OwnP Pv B (fun s W => I (f s) W) := fun s W W' row hs hg hr => h (f s) W W' row hs hg hr
theorem OwnP.const {β : Type} (Pv : Obj → Prop) (B : Nat) (p : β → Prop) : OwnP Pv B (fun s (_ : World) => p s) := fun _ _ _ _ hs _ _ => hs

theorem OwnP.below {β : Type} (Pv : Obj → Prop) {B n₀ : Nat} {w₀ : World} (hn : n₀ ≤ w₀.heap.size) (hB : n₀ ≤ B) : OwnP Pv B (fun (_ : β) W => Below n₀ w₀ W) :=
  fun _ _ _ _ hs hg hr => hs.grown hg (Nat.le_trans hn hs.size) (fun k e => Nat.le_trans hB (hr k e).1)

/-- A box that lies below B abides. -/
theorem OwnP.box {β : Type} (Pv : Obj → Prop) {B b : Nat} (hb : b < B) (t : TypeId) (f : β → Value) : OwnP Pv B (fun s W => Boxed W b t (f s)) :=
  fun _ _ _ _ hs hg hr => hs.kept hg (fun e => by have := (hr b e.symm).1; omega)

/-- 'No cells': the least choice of Pv. -/
def NoCells (o : Obj) : Prop := o.isCells = false

/-- The contract of an iterator value: function gf with the captured values lb hands over the list xs. -/
def Iter (Pv : Obj → Prop) (P : Program) (gf : Nat) (lb : Array Value) {α : Type} (encs : α → Array Value) (Kp : World → World → Prop) (xs : List α) (W0 : World) : Prop :=
  ∀ (l : Nat) (J Jx : List α → World → Prop) (W : World), Below W0.heap.size W0 W → OwnP Pv W.heap.size J → OwnP Pv W.heap.size Jx →
    (∀ pre x post W1, xs = pre ++ x :: post → J pre W1 → YieldAt Fence.wide 0 P l (encs x) W1 fun e W' =>
      ((e = .returned (.bool true) ∧ J (pre ++ [x]) W' ∧ Kp W1 W') ∨ (e = .returned (.bool false) ∧ Jx (pre ++ [x]) W')) ∧ KeepsFrom W.heap.size W1 W') →
    J [] W →
    CallsIn Fence.wide 0 P gf (#[.func (.yield l) #[] #[]] ++ lb) W fun e W' => (∃ v, e = .returned v) ∧
      (J xs W' ∨ ∃ pre x post, xs = pre ++ x :: post ∧ Jx (pre ++ [x]) W')

theorem Iter.later {Pv : Obj → Prop} {P : Program} {gf : Nat} {lb : Array Value} {α : Type} {encs : α → Array Value} {Kp : World → World → Prop} {xs : List α} {W0 W1 : World}
    (h : Iter Pv P gf lb encs Kp xs W0) (hb : Below W0.heap.size W0 W1) : Iter Pv P gf lb encs Kp xs W1 :=
  fun l J Jx W hW => h l J Jx W (hb.trans (hW.mono hb.size))

/-- What the world may have turned into in a round: what is no cells, from B on, lies as it lay. -/
abbrev RoundOut {α : Type} (B : Nat) (Kp : World → World → Prop) (I : List α → World → Prop) (Ix : Code → List α → World → Prop) (pre : List α) (W : World) : Exit → Act → World → Prop :=
  ownPostG B Kp I Ix pre W

/-- The law: the loop over an iterator that has its contract, outside of any round. -/
theorem wp_range {Pv : Obj → Prop} (hPv : ∀ o : Obj, o.isCells = false → Pv o) {P : Program} {α : Type} {g : Operand} {ps : Array Tmp} {assign body : Code}
    {Q : Exit → Act → World → Prop} {a : Act} {w : World} {gf : Nat} {lb : Array Value} (hg : a.eval g = .func (.func gf) #[] lb)
    (eg : ∀ args w, (callFunc gf args).run P w = .ok (.enter gf args) w)
    {encs : α → Array Value} {Kp : World → World → Prop} {xs : List α} {w0 : World} (hit : Iter Pv P gf lb encs Kp xs w0) (hb0 : Below w0.heap.size w0 w)
    (hKt : ∀ {A B C : World}, Kp A B → Kp B C → Kp A C)
    (hKb : ∀ (W : World) (l : Nat) (o o' : Obj), w.heap.size ≤ l → W.heap[l]? = some o → o.isCells = false → Kp W (W.putObj l o'))
    (hps : ∀ x, (encs x).size = ps.size)
    (I : List α → World → Prop) (Ix : Code → List α → World → Prop) (hI : OwnP Pv w.heap.size I) (hIx : ∀ c, OwnP Pv w.heap.size (Ix c)) (h0 : I [] w)
    (hround : ∀ (l : Nat) (pre : List α) (x : α) (post : List α) (W : World), xs = pre ++ x :: post → w.heap.size ≤ l → l < W.heap.size → I pre W →
      assign.wpIn (Fence.wide.inRound l) 0 P (Exit.then (fun a₁ W₁ => KeepsFrom w.heap.size W W₁ ∧ Kp W W₁ ∧ I pre W₁ ∧
          ∀ W₂, W₁.grownBy W₂ (some l) → I pre W₂ → body.wpIn (Fence.wide.inRound l) 0 P (RoundOut w.heap.size Kp I Ix (pre ++ [x]) W₂) a₁ W₂) (fun _ _ _ => False))
        { tmps := (ps.zip (encs x)).foldl (fun t (p, v) => t.setIfInBounds p v) a.tmps, defers := [] } W)
    (hdone : ∀ (D : Nat) (W : World), w.heap.size ≤ D → I xs W → W.heap[D]? = some (.deferred (some [])) → Q .normal { a with defers := { target := .collected D, args := #[] } :: a.defers } W)
    (hstop : ∀ (D : Nat) (c : Code) (pre : List α) (x : α) (post : List α) (W : World), xs = pre ++ x :: post → w.heap.size ≤ D → Ix c (pre ++ [x]) W →
      W.heap[D]? = some (.deferred (some [])) → c.wpIn Fence.wide 0 P Q { a with defers := { target := .collected D, args := #[] } :: a.defers } W) :
    (Code.rangeFunc g ps assign body).wpIn Fence.wide 0 P Q a w := by
  refine wpIn_rangeFunc ?_
  intro fn _
  generalize hrec : (fun (st : LoopState) (pe : Option Code) => ({ state := st, pending := pe, fn, tmps := a.tmps, params := ps, assign, body, defers := w.heap.size } : Loop)) = rec
  have hst : ∀ st pe, (rec st pe).state = st := fun st pe => by rw [← hrec]
  have hpe : ∀ st pe, (rec st pe).pending = pe := fun st pe => by rw [← hrec]
  generalize hL : w.heap.size + 1 = L
  have hget : ∃ W1, (w.alloc (.deferred (some []))).alloc (.loop (rec .ready none)) = W1 := ⟨_, rfl⟩
  obtain ⟨W1, hW1⟩ := hget
  have hs1 : W1.heap.size = w.heap.size + 2 := by rw [← hW1]; simp
  have hD1 : W1.heap[w.heap.size]? = some (.deferred (some [])) := by
    rw [← hW1]; exact (Below.heap_alloc _ _ _ (by simp)).trans (World.alloc_heap_new w _)
  have hL1 : W1.heap[L]? = some (.loop (rec .ready none)) := by
    rw [← hW1, ← hL]; have h := World.alloc_heap_new (w.alloc (.deferred (some []))) (.loop (rec .ready none)); rwa [World.size_alloc] at h
  have hI1 : I [] W1 := by rw [← hW1]; exact hI.new _ (hI.new _ h0)
  have hb1 : Below w0.heap.size w0 W1 := by
    rw [← hW1]; exact hb0.trans ((((Below.refl _ w).alloc (Nat.le_refl _) _).alloc (by simp) _).mono hb0.size)
  have hent : (Instr.enterLoop fn a.tmps ps assign body none).run P w = .ok (L, [{ target := .collected w.heap.size, args := #[] }]) W1 := by
    rw [← hW1, ← hL, ← hrec]; exact run_enterLoop_outer _ _ _ _ _
  refine ⟨L, [{ target := .collected w.heap.size, args := #[] }], W1, { target := .fn (.func gf) lb, args := #[.func (.yield L) #[] #[]] }, W1, gf,
    #[.func (.yield L) #[] #[]] ++ lb, W1, hent, ?_, fun _ _ => trivial, ?_, ?_, ?_⟩
  · simp only [resolve, hg]
    simp [go_sem]
  · simp [invoke, go_sem, eg]
  · intro h; simp [Fence.wide] at h
  -- the two blocks of book-keeping abide what the iterator turns
  have keepB : ∀ {k : Nat} {o : Obj} {A B : World} {row : Option Nat}, k < W1.heap.size → A.heap[k]? = some o → A.grownBy B row →
      (∀ r, row = some r → W1.heap.size ≤ r ∧ ∃ o : Obj, A.heap[r]? = some o ∧ Pv o) → B.heap[k]? = some o := by
    intro k o A B row hk ho hgr hr
    refine (hgr.block k (Array.getElem?_eq_some_iff.1 ho).1 (fun e => ?_)).trans ho
    have := (hr k e.symm).1; omega
  have far : ∀ {A : World} {row : Option Nat}, (∀ r, row = some r → W1.heap.size ≤ r ∧ ∃ o : Obj, A.heap[r]? = some o ∧ Pv o) →
      ∀ r, row = some r → w.heap.size ≤ r ∧ ∃ o : Obj, A.heap[r]? = some o ∧ Pv o := by
    intro A row hr r e
    obtain ⟨h1, h2⟩ := hr r e
    exact ⟨by omega, h2⟩
  refine (hit L
    (fun pre W => I pre W ∧ W.heap[L]? = some (.loop (rec .ready none)) ∧ W.heap[w.heap.size]? = some (.deferred (some [])))
    (fun pre W => ∃ c, Ix c pre W ∧ W.heap[L]? = some (.loop (rec .done (some c))) ∧ W.heap[w.heap.size]? = some (.deferred (some [])))
    W1 hb1 ?own ?ownx ?round ⟨hI1, hL1, hD1⟩).mono ?after
  case own =>
    intro s A B row hs hgr hr
    exact ⟨hI s A B row hs.1 hgr (far hr), keepB (by omega) hs.2.1 hgr hr, keepB (by omega) hs.2.2 hgr hr⟩
  case ownx =>
    rintro s A B row ⟨c, hc, h1, h2⟩ hgr hr
    exact ⟨c, hIx c s A B row hc hgr (far hr), keepB (by omega) h1 hgr hr, keepB (by omega) h2 hgr hr⟩
  case round =>
    rintro pre x post W hxs ⟨hi, hl, hd⟩
    have hlt : L < W.heap.size := (Array.getElem?_eq_some_iff.1 hl).1
    have hy := run_yield (P := P) (args := encs x) hl (by rw [← hrec]; exact hps x)
    rw [← hrec] at hy
    refine ⟨fn, _, assign, body, hy, roundIn_of_wpIn trivial ?_⟩
    refine wpIn_mono (hround L pre x post W hxs (by omega) hlt hi) ?_
    clear hy
    rintro e a₁ W₁ hp
    cases e with
    | normal =>
      obtain ⟨hk1, hkp1, hi1, hbody⟩ := hp
      have hl1 := hk1.same _ _ (by omega) hl rfl
      have hd1 := hk1.same _ _ (Nat.le_refl _) hd rfl
      have hlt1 : L < W₁.heap.size := (Array.getElem?_eq_some_iff.1 hl1).1
      refine ⟨_, run_beginRound hl1 (hst _ _), ?_⟩
      have hl2 : (W₁.putObj L (.loop { rec .ready none with state := .busy })).heap[L]? = some (.loop { rec .ready none with state := .busy }) := World.putObj_heap_same hlt1
      have hd2 : (W₁.putObj L (.loop { rec .ready none with state := .busy })).heap[w.heap.size]? = some (.deferred (some [])) := (World.putObj_heap_other (by omega)).trans hd1
      have hkp2 : Kp W (W₁.putObj L (.loop { rec .ready none with state := .busy })) := hKt hkp1 (hKb _ _ _ _ (by omega) hl1 rfl)
      refine wpIn_mono (hbody _ (grownBy_putObj' W₁ L _) (hI.put _ hi1 (by omega) hl1 (hPv _ rfl))) ?_
      have fin : ∀ (jump : Option Code) (W3 : World), KeepsFrom w.heap.size (W₁.putObj L (.loop { rec .ready none with state := .busy })) W3 →
          ∃ hl3 : W3.heap[L]? = some (.loop { rec .ready none with state := .busy }),
          (Instr.endRound L jump).run P W3 = .ok (.bool jump.isNone) (W3.putObj L (.loop (rec (if jump.isNone then .ready else .done) jump))) ∧
          (W3.putObj L (.loop (rec (if jump.isNone then .ready else .done) jump))).heap[L]? = some (.loop (rec (if jump.isNone then .ready else .done) jump)) ∧
          (W3.putObj L (.loop (rec (if jump.isNone then .ready else .done) jump))).heap[w.heap.size]? = some (.deferred (some [])) := by
        intro jump W3 hk3
        have hl3 := hk3.same _ _ (by omega) hl2 rfl
        have hd3 := hk3.same _ _ (Nat.le_refl _) hd2 rfl
        have he := run_endRound (P := P) jump hl3
        refine ⟨hl3, ?_, World.putObj_heap_same (Array.getElem?_eq_some_iff.1 hl3).1, (World.putObj_heap_other (by omega)).trans hd3⟩
        rw [he, ← hrec]
      have kfar : ∀ {W3 : World} (jump : Option Code), KeepsFrom w.heap.size (W₁.putObj L (.loop { rec .ready none with state := .busy })) W3 →
          KeepsFrom W1.heap.size W (W3.putObj L (.loop (rec (if jump.isNone then .ready else .done) jump))) := by
        intro W3 jump hk3
        have up : ∀ {X Y : World}, KeepsFrom w.heap.size X Y → KeepsFrom W1.heap.size X Y := fun h => ⟨h.size, fun k o hB hk ho => h.same k o (by omega) hk ho⟩
        have own : ∀ (X : World) (o : Obj), KeepsFrom W1.heap.size X (X.putObj L o) := fun X o => KeepsFrom.of_grownBy (grownBy_putObj' X L o) (fun j e => by cases e; omega)
        exact ((up hk1).trans (own _ _)).trans ((up hk3).trans (own _ _))
      rintro e a3 W3 hp
      cases e with
      | normal =>
        obtain ⟨hk3, hkp3, hi3⟩ := hp
        obtain ⟨hl3, hr, hl4, hd4⟩ := fin none W3 hk3
        exact ⟨_, _, hr, .inl ⟨rfl, ⟨hI.put _ hi3 (by omega) hl3 (hPv _ rfl), hl4, hd4⟩, hKt hkp2 (hKt hkp3 (hKb _ _ _ _ (by omega) hl3 rfl))⟩, kfar _ hk3⟩
      | ret =>
        obtain ⟨hk3, hi3⟩ := hp
        obtain ⟨hl3, hr, hl4, hd4⟩ := fin (some .ret) W3 hk3
        exact ⟨_, _, hr, .inr ⟨rfl, .ret, (hIx _).put _ hi3 (by omega) hl3 (hPv _ rfl), hl4, hd4⟩, kfar _ hk3⟩
      | exit id =>
        obtain ⟨hk3, hi3⟩ := hp
        obtain ⟨hl3, hr, hl4, hd4⟩ := fin (some (.exit id)) W3 hk3
        exact ⟨_, _, hr, .inr ⟨rfl, .exit id, (hIx _).put _ hi3 (by omega) hl3 (hPv _ rfl), hl4, hd4⟩, kfar _ hk3⟩
      | goto t =>
        obtain ⟨hk3, hi3⟩ := hp
        obtain ⟨hl3, hr, hl4, hd4⟩ := fin (some (.goto t)) W3 hk3
        exact ⟨_, _, hr, .inr ⟨rfl, .goto t, (hIx _).put _ hi3 (by omega) hl3 (hPv _ rfl), hl4, hd4⟩, kfar _ hk3⟩
      | panic ch => exact hp.elim
      | outgrown => exact hp.elim
    | ret => exact hp.elim
    | exit id => exact hp.elim
    | goto t => exact hp.elim
    | panic ch => exact hp.elim
    | outgrown => exact hp.elim
  case after =>
    rintro e W2 ⟨⟨v, rfl⟩, (⟨hi, hl, hd⟩ | ⟨pre, x, post, hxs, c, hc, hl, hd⟩)⟩
    · have he := run_endLoop (P := P) hl (by rw [hst]; decide)
      rw [hpe] at he
      exact ⟨none, _, he, hdone _ _ (Nat.le_refl _) (hI.put _ hi (by omega) hl (hPv _ rfl)) ((World.putObj_heap_other (by omega)).trans hd)⟩
    · have he := run_endLoop (P := P) hl (by rw [hst]; decide)
      rw [hpe] at he
      exact ⟨some c, _, he, hstop _ c pre x post _ hxs (Nat.le_refl _) ((hIx c).put _ hc (by omega) hl (hPv _ rfl)) ((World.putObj_heap_other (by omega)).trans hd)⟩

/-- Block B is a variable's box of several cells. -/
def BoxN (W : World) (B : Nat) (t : TypeId) (vs : Array Value) : Prop := W.heap[B]? = some (.cells vs t (0, 0))
theorem BoxN.lt {W : World} {B : Nat} {t : TypeId} {vs : Array Value} (h : BoxN W B t vs) : B < W.heap.size := (Array.getElem?_eq_some_iff.1 h).1
theorem BoxN.cell {W : World} {B : Nat} {t : TypeId} {vs : Array Value} (h : BoxN W B t vs) {i : Nat} {v : Value} (hv : vs[i]? = some v) : W.cell? ⟨B, i, none⟩ = some v := by simp [World.cell?, show W.heap[B]? = _ from h, hv]
theorem BoxN.frozen {W : World} {B : Nat} {t : TypeId} {vs : Array Value} (h : BoxN W B t vs) (i : Nat) : W.frozen? ⟨B, i, none⟩ = false := by simp [World.frozen?, show W.heap[B]? = _ from h]
theorem BoxN.new (W : World) (t : TypeId) (vs : Array Value) : BoxN (W.alloc (.cells vs t)) W.heap.size t vs := World.alloc_heap_new W _
theorem BoxN.kept {W W' : World} {row : Option Nat} {B : Nat} {t : TypeId} {vs : Array Value} (h : BoxN W B t vs) (hg : W.grownBy W' row) (hne : some B ≠ row) : BoxN W' B t vs := (hg.block B h.lt hne).trans h
theorem BoxN.alloc {W : World} {B : Nat} {t : TypeId} {vs : Array Value} (h : BoxN W B t vs) (o : Obj) : BoxN (W.alloc o) B t vs := h.kept (World.grownBy_alloc W o none) (by simp)
theorem BoxN.below {n₀ : Nat} {W W' : World} {B : Nat} {t : TypeId} {vs : Array Value} (h : BoxN W B t vs) (hb : Below n₀ W W') (hB : B < n₀) : BoxN W' B t vs := (hb.block B hB).trans h
theorem BoxN.set {W : World} {B : Nat} {t : TypeId} {vs : Array Value} (i : Nat) (v' : Value) (h : BoxN W B t vs) : BoxN (W.setCell ⟨B, i, none⟩ v') B t (vs.setIfInBounds i v') := by
  obtain ⟨hlt, hk⟩ := Array.getElem?_eq_some_iff.1 h
  show (W.heap.modify B _)[B]? = _
  rw [Array.getElem?_eq_getElem (by rw [Array.size_modify]; exact hlt), Array.getElem_modify_self, hk]
  rfl
theorem boxN_other {W : World} {B : Nat} {t : TypeId} {vs : Array Value} (h : BoxN W B t vs) (p : Addr) (hne : B ≠ p.block) (u : Value) : BoxN (W.setCell p u) B t vs := (Below.heap_setCell W p u B hne).trans h
theorem boxed_other {W : World} {B : Nat} {t : TypeId} {v : Value} (h : Boxed W B t v) (p : Addr) (hne : B ≠ p.block) (u : Value) : Boxed (W.setCell p u) B t v := (Below.heap_setCell W p u B hne).trans h
theorem pow32 (k : Nat) (hk : k < 32) : (2 : Int) ^ k % 4294967296 = 2 ^ k := by
  have h1 : (2 : Int) ^ k > 0 := Int.pow_pos (by decide)
  have h2 : (2 : Int) ^ k ≤ 2 ^ 31 := by
    have : (2 : Nat) ^ k ≤ 2 ^ 31 := Nat.pow_le_pow_right (by decide) (by omega)
    exact_mod_cast this
  omega
theorem BoxN.one {W : World} {B : Nat} {t : TypeId} {v : Value} : BoxN W B t #[v] ↔ Boxed W B t v := Iff.rfl
theorem OwnP.boxN {β : Type} (Pv : Obj → Prop) {B b : Nat} (hb : b < B) (t : TypeId) (f : β → Array Value) : OwnP Pv B (fun s W => BoxN W b t (f s)) :=
  fun _ _ _ _ hs hg hr => hs.kept hg (fun e => by have := (hr b e.symm).1; omega)

/-- What a round keeps for the iterator: the blocks of a set S, and all rows of cells of the types T. -/
structure KeepsS (S : Nat → Prop) (T : TypeId → Prop) (W W' : World) : Prop where
  size : W.heap.size ≤ W'.heap.size
  same : ∀ k, S k → W'.heap[k]? = W.heap[k]?
  kind : ∀ (k : Nat) (cs : Array Value) (t : TypeId) (fr : Nat × Nat), T t → W.heap[k]? = some (.cells cs t fr) → W'.heap[k]? = some (.cells cs t fr)
theorem KeepsS.refl (S : Nat → Prop) (T : TypeId → Prop) (W : World) : KeepsS S T W W := ⟨Nat.le_refl _, fun _ _ => rfl, fun _ _ _ _ _ h => h⟩
theorem KeepsS.trans {S : Nat → Prop} {T : TypeId → Prop} {A B C : World} (h : KeepsS S T A B) (k : KeepsS S T B C) : KeepsS S T A C :=
  ⟨Nat.le_trans h.size k.size, fun i hi => (k.same i hi).trans (h.same i hi), fun i cs t fr ht hi => k.kind i cs t fr ht (h.kind i cs t fr ht hi)⟩
theorem KeepsS.new {S : Nat → Prop} {T : TypeId → Prop} {W W' : World} (h : Below W.heap.size W W') (hS : ∀ k, S k → k < W.heap.size) : KeepsS S T W W' :=
  ⟨h.size, fun k hk => h.block k (hS k hk), fun k _ _ _ _ hk => (h.block k (Array.getElem?_eq_some_iff.1 hk).1).trans hk⟩
theorem KeepsS.grown {S : Nat → Prop} {T : TypeId → Prop} {W W' : World} {row : Option Nat} (hg : W.grownBy W' row) (hS : ∀ k, S k → k < W.heap.size ∧ some k ≠ row)
    (hT : ∀ r cs t fr, row = some r → W.heap[r]? = some (.cells cs t fr) → ¬ T t) : KeepsS S T W W' :=
  ⟨hg.size, fun k hk => hg.block k (hS k hk).1 (hS k hk).2, fun k cs t fr ht hk => (hg.block k (Array.getElem?_eq_some_iff.1 hk).1 (fun e => hT k cs t fr e.symm hk ht)).trans hk⟩
theorem KeepsS.set {S : Nat → Prop} {T : TypeId → Prop} {W : World} {p : Addr} {cs : Array Value} {t : TypeId} (hb : BoxN W p.block t cs) (ht : ¬ T t) (hS : ∀ k, S k → k ≠ p.block) (v : Value) : KeepsS S T W (W.setCell p v) :=
  ⟨(KeepsWalks.setCell W _ v).size, fun k hk => Below.heap_setCell _ _ _ k (hS k hk), fun k cs' t' fr ht' hk => by
    refine (Below.heap_setCell _ _ _ k (fun e => ?_)).trans hk
    rw [e, show W.heap[p.block]? = _ from hb] at hk
    cases hk; exact ht ht'⟩
theorem KeepsS.put {S : Nat → Prop} {T : TypeId → Prop} {w : World} (hS : ∀ k, S k → k < w.heap.size) (W : World) (l : Nat) (o o' : Obj) (hl : w.heap.size ≤ l) (h : W.heap[l]? = some o) (ho : o.isCells = false) : KeepsS S T W (W.putObj l o') :=
  ⟨by simp, fun k hk => World.putObj_heap_other (by have := hS k hk; omega), fun k cs t fr _ hk => by
    refine (World.putObj_heap_other (fun e => ?_)).trans hk
    rw [e, h] at hk; cases hk; cases ho⟩
theorem KeepsS.cell {S : Nat → Prop} {T : TypeId → Prop} {W W' : World} (h : KeepsS S T W W') {a : Addr} (ha : S a.block) : W'.cell? a = W.cell? a := World.cell?_of_block (h.same _ ha)
theorem KeepsS.boxed {S : Nat → Prop} {T : TypeId → Prop} {W W' : World} (h : KeepsS S T W W') {b : Nat} {t : TypeId} {v : Value} (hb : S b) (hv : Boxed W b t v) : Boxed W' b t v := (h.same _ hb).trans hv
theorem KeepsS.boxN {S : Nat → Prop} {T : TypeId → Prop} {W W' : World} (h : KeepsS S T W W') {b : Nat} {t : TypeId} {vs : Array Value} (hb : S b) (hv : BoxN W b t vs) : BoxN W' b t vs := (h.same _ hb).trans hv
theorem KeepsS.boxT {S : Nat → Prop} {T : TypeId → Prop} {W W' : World} (h : KeepsS S T W W') {b : Nat} {t : TypeId} {vs : Array Value} (ht : T t) (hv : BoxN W b t vs) : BoxN W' b t vs := h.kind _ _ _ _ ht hv
/-- What keeps more keeps less. -/
theorem KeepsS.less {S S' : Nat → Prop} {T T' : TypeId → Prop} {W W' : World} (h : KeepsS S T W W') (hS : ∀ k, S' k → S k ∨ ∃ cs t fr, T t ∧ W.heap[k]? = some (.cells cs t fr)) (hT : ∀ t, T' t → T t) : KeepsS S' T' W W' :=
  ⟨h.size, fun k hk => (hS k hk).elim (h.same k) (fun ⟨cs, t, fr, ht, hc⟩ => (h.kind k cs t fr ht hc).trans hc.symm), fun k cs t fr ht => h.kind k cs t fr (hT t ht)⟩
theorem OwnP.mono {β : Type} {Pv : Obj → Prop} {B B' : Nat} {I : β → World → Prop} (h : OwnP Pv B I) (hB : B ≤ B') : OwnP Pv B' I :=
  fun s W W' row hs hg hr => h s W W' row hs hg (fun r e => ⟨Nat.le_trans hB (hr r e).1, (hr r e).2⟩)
theorem OwnP.keeps {β : Type} (Pv : Obj → Prop) {B : Nat} {S : Nat → Prop} {T : TypeId → Prop} {w₀ : World} (hB : w₀.heap.size ≤ B) (hS : ∀ k, S k → k < w₀.heap.size) : OwnP Pv B (fun (_ : β) W => KeepsS S T w₀ W) :=
  fun _ X Y row hs hg hr => ⟨Nat.le_trans hs.size hg.size,
    fun k hk => (hg.block k (by have := hS k hk; have := hs.size; omega) (fun e => by have := (hr k e.symm).1; have := hS k hk; omega)).trans (hs.same k hk),
    fun k cs t fr ht hk => (hg.block k (by have := (Array.getElem?_eq_some_iff.1 hk).1; have := hs.size; omega) (fun e => by have := (hr k e.symm).1; have := (Array.getElem?_eq_some_iff.1 hk).1; omega)).trans (hs.kind k cs t fr ht hk)⟩

/-- A function whose body holds such a loop, outside of any fence. -/
theorem calls_of_wide {P : Program} {f : FuncId} {args : Array Value} {w : World} {R : Ending → World → Prop} (h : CallsIn Fence.wide 0 P f args w R) : Calls P f args w R := callsIn_wide.1 h

theorem in_of_calls {P : Program} {f : FuncId} {args : Array Value} {w : World} {R : Ending → World → Prop} (h : Calls P f args w R) : CallsIn Fence.wide 0 P f args w R := callsIn_wide.2 h
theorem OwnP.of_own {β : Type} {I : β → World → Prop} (h : Own I) (B : Nat) : OwnP NoCells B I := fun s W W' row hs hg hr => h s W W' row hs hg (fun r e => (hr r e).2)

/-- 'out = append(out, ..)', out a variable's box: all that the walk owes behind it. -/
theorem box_append {W w1 : World} {n₀ B : Nat} {t e : TypeId} {size : Nat} {v v' : Value} {k m : Nat} {xs ys : List Value} {tmp : Obj}
    (hv : Boxed W B t v) (hte : t ≠ e) (hrow : W.ownsRow n₀ e size v k xs) (hown' : w1.ownsRow n₀ e size v' m ys) (hgrow : (W.alloc tmp).grownBy w1 v.ownBlock) :
    Boxed w1 B t v ∧ Boxed (w1.setCell ⟨B, 0, none⟩ v') B t v' ∧ (w1.setCell ⟨B, 0, none⟩ v').ownsRow n₀ e size v' m ys ∧ KeepsOthers W (w1.setCell ⟨B, 0, none⟩ v') ∧
    (∀ b, b ≤ n₀ → b ≤ B → b ≤ W.heap.size → Below b W (w1.setCell ⟨B, 0, none⟩ v')) ∧
    (∀ (S : Nat → Prop) (T : TypeId → Prop), (∀ i, S i → i < W.heap.size ∧ i < n₀ ∧ i ≠ B) → ¬ T t → ¬ T e → KeepsS S T W (w1.setCell ⟨B, 0, none⟩ v')) := by
  have hv1 : Boxed w1 B t v := (hv.alloc tmp).kept hgrow (hv.not_row hte hrow)
  have hbase : ∀ j, v.ownBlock = some j → n₀ ≤ j := by
    intro j hj
    rcases hrow.2 with ⟨rfl, _⟩ | ⟨g, cap, cur, rfl, hb, _, _⟩
    · simp [Value.ownBlock] at hj
    · obtain rfl : g = j := by simpa [Value.ownBlock] using hj
      exact hb
  refine ⟨hv1, hv1.set v', hown'.kept (grownBy_setCell' w1 B v') (.inr (hv1.not_row hte hown').symm), ?_, ?_, ?_⟩
  · refine ((KeepsOthers.alloc W tmp).trans (KeepsOthers.of_grownBy hgrow fun j o ej hj => ?_)).trans (KeepsOthers.setCell _ _ _)
    rcases (hrow.alloc tmp).2 with ⟨rfl, _⟩ | ⟨g, cap, cur, rfl, _, hgb, _⟩
    · simp [Value.ownBlock] at ej
    · obtain rfl : g = j := by simpa [Value.ownBlock] using ej
      rw [hgb] at hj; cases hj; rfl
  · intro b h1 h2 h3
    exact (((Below.refl b W).alloc h3 tmp).grown hgrow (by simp; omega) fun j ej => Nat.le_trans h1 (hbase j ej)).setCell (p := ⟨B, 0, none⟩) h2 v'
  · intro S T hS hTt hTe
    have k1 : KeepsS S T W (W.alloc tmp) := KeepsS.new ((Below.refl _ W).alloc (Nat.le_refl _) _) (fun k hk => (hS k hk).1)
    have k2 : KeepsS S T (W.alloc tmp) w1 := by
      refine KeepsS.grown hgrow (fun k hk => ⟨by have := (hS k hk).1; simp; omega, fun ek => ?_⟩) (fun r cs t' fr er hr => ?_)
      · have := hbase k ek.symm; have := (hS k hk).2.1; omega
      · rcases (hrow.alloc tmp).2 with ⟨rfl, _⟩ | ⟨g, cap, cur, rfl, _, hgb, _⟩
        · simp [Value.ownBlock] at er
        · obtain rfl : g = r := by simpa [Value.ownBlock] using er
          rw [hgb] at hr; cases hr; exact hTe
    exact (k1.trans k2).trans (KeepsS.set (p := ⟨B, 0, none⟩) hv1 hTt (fun k hk => (hS k hk).2.2) v')

theorem below_drawn {B : Nat} {a w : World} (h : Below B a w) (n : Nat) : Below B a (w.drewN n) := ⟨h.os, h.tape, h.output, h.size, h.block⟩
theorem ownsRow_lower {w : World} {base base' : Nat} {e : TypeId} {size : Nat} {v : Value} {n : Nat} {xs : List Value} (h : w.ownsRow base e size v n xs) (hb : base' ≤ base) : w.ownsRow base' e size v n xs := by
  rcases h with ⟨h1, h2 | ⟨g, cap, cur, hv, hg, h3⟩⟩
  · exact ⟨h1, .inl h2⟩
  · exact ⟨h1, .inr ⟨g, cap, cur, hv, by omega, h3⟩⟩

/-- The end of a function that held such a loop: the mark is come to, the results are read. -/
theorem leave_mark {P : Program} {fn : Func} {R : Ending → World → Prop} {tmps : Array Value} {w : World} {D : Nat} {v : Value} (hK : w.heap[D]? = some (.deferred (some [])))
    (hres : (results fn tmps).run P (w.putObj D (.deferred none)) = .ok v (w.putObj D (.deferred none))) (hR : R (.returned v) (w.putObj D (.deferred none))) :
    bodyPostM Fence.wide 0 P fn R .ret { tmps := tmps, defers := [{ target := .collected D, args := #[] }] } w :=
  ⟨by simp, .inl ⟨_, _, rfl, run_takeDeferred hK, v, hres, hR⟩⟩
theorem boxed_putD {W : World} {b : Nat} {t : TypeId} {v : Value} (h : Boxed W b t v) {D : Nat} (hD : b ≠ D) (o : Obj) : Boxed (W.putObj D o) b t v := h.kept (grownBy_putObj' W D o) (by simpa using hD)
theorem boxN_putD {W : World} {b : Nat} {t : TypeId} {vs : Array Value} (h : BoxN W b t vs) {D : Nat} (hD : b ≠ D) (o : Obj) : BoxN (W.putObj D o) b t vs := h.kept (grownBy_putObj' W D o) (by simpa using hD)
theorem below_putD {n₀ : Nat} {w W : World} (h : Below n₀ w W) {D : Nat} (hD : n₀ ≤ D) (o' : Obj) : Below n₀ w (W.putObj D o') := by
  refine ⟨h.os, h.tape, h.output, by simpa using h.size, fun k hk => ?_⟩
  rw [World.putObj_heap_other (by omega)]
  exact h.block k hk

/-- What the walk asks of the wide fence. -/
theorem wide_fn (f : Nat) : Fence.wide.fn f = True := rfl
theorem wide_depth : Fence.wide.depth = none := rfl
theorem wide_round : Fence.wide.round = none := rfl
attribute [go_sem] wide_fn wide_depth wide_round
end Go.Proofs.Ytbglgblngfbhbaa
