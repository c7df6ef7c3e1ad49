/- Texts of this claim, put together: Vr, Vs0, Vt, Vu, Vv, Ub, Ue. -/
import Derived.Test.YtkbaghblchlcnaaD21
import Derived.Test.YtkbaghblchlcnaaD22
import Derived.Deep.RegionHeld3
import Derived.Deep.RegionWith
namespace Go.Proofs.Ytkbaghblchlcnaa.Lr
open Go.RowKit Go.Shelf Go.Proofs.YtkbaghblchlcnaaW.PrintWords Go.Proofs.Ytkbaghblchlcnaa.IAll
structure VS where
  m : Int
  p0 : Int
  p1 : Int
  o0 : Bool
  o1 : Bool
  sp : Bool
  a : Int
  b : Int
  xs : List S54
  lost : Int
def vrow (n bl : Nat) (s : VS) : Array Value := #[.int .i64 s.m, .int .i64 s.p0, .int .i64 s.p1, .bool s.o0, .bool s.o1, .bool s.sp, .int .u32 s.a, .int .u32 s.b, .slice (some ⟨bl, 0, none⟩) n n, .int .i64 s.lost]
def rrow (n bl : Nat) (s : VS) : Array Value := RV (RC s.m s.p0 s.p1 s.o0 s.o1 s.sp (rb s.a s.b)) (.slice (some ⟨bl, 0, none⟩) n n) (.int .i64 s.lost)
structure Tell where
  n : Int
  ok : Bool
  mm : Int
  is : Bool
def ackS (s : VS) (gp : Int) : VS := { s with a := ackA s.m s.p0 s.p1 s.o0 s.o1 s.a s.b s.xs gp, b := ackB s.m s.p0 s.p1 s.o0 s.o1 s.a s.b s.xs gp, xs := ackXs s.m s.p0 s.p1 s.o0 s.o1 s.a s.b s.xs gp }
def ackN (s : VS) (gp : Int) : Int := ackId s.m s.p0 s.p1 s.o0 s.o1 s.a s.b s.xs gp
def showN (s : VS) (gp : Int) : Int := showsP s.o0 s.o1 (best s.xs).id (best s.xs).gr (best s.xs).is gp
def eoiS (s : VS) (gp id : Int) : VS := { s with a := eoiA s.a s.b gp id, b := eoiB s.a s.b gp id, xs := gXs id s.xs (eoiGo s.sp s.a s.b gp id), lost := gLost id s.xs (eoiGo s.sp s.a s.b gp id) s.lost }
def dirS (s : VS) (id : Int) : VS := { s with xs := gXs id s.xs (dirGo s.sp id), lost := gLost id s.xs (dirGo s.sp id) s.lost }
def writeS (s : VS) (r x : Int) : VS := { s with m := wM r x s.m, p0 := wP0 r x s.p0, p1 := wP1 r x s.p1, o0 := wO0 r x s.o0, o1 := wO1 r x s.o1, sp := wSp r x s.sp }
def doV (s : VS) (r : Int) (wr : Bool) (x : Int) : VS × Tell :=
  if wr = false then
    if r = 1 then (ackS s 0, ⟨IntKind.u64.wrap (ackN s 0), false, -1, true⟩) else
    if r = 2 then (ackS s 1, ⟨IntKind.u64.wrap (ackN s 1), false, -1, true⟩) else
    if r = 13 then (s, ⟨IntKind.u64.wrap (showN s 0), false, -1, true⟩) else
    if r = 14 then (s, ⟨IntKind.u64.wrap (showN s 1), false, -1, true⟩) else
    (s, ⟨rdN r s.m s.p0 s.p1 s.o0 s.o1 s.sp s.a s.b, false, -1, rdOk r⟩)
  else
    if r = 3 then (eoiS s 0 (x % 16777216), ⟨0, gOk (x % 16777216) s.xs (eoiGo s.sp s.a s.b 0 (x % 16777216)), gM (x % 16777216) s.xs (eoiGo s.sp s.a s.b 0 (x % 16777216)), true⟩) else
    if r = 4 then (eoiS s 1 (x % 16777216), ⟨0, gOk (x % 16777216) s.xs (eoiGo s.sp s.a s.b 1 (x % 16777216)), gM (x % 16777216) s.xs (eoiGo s.sp s.a s.b 1 (x % 16777216)), true⟩) else
    if r = 5 then (dirS s (x % 16777216), ⟨0, gOk (x % 16777216) s.xs (dirGo s.sp (x % 16777216)), gM (x % 16777216) s.xs (dirGo s.sp (x % 16777216)), true⟩) else
    (writeS s r x, ⟨0, false, -1, wOk r⟩)
/-- what is asked of a state -/
structure SOk (n : Nat) (s : VS) : Prop where
  len : s.xs.length = n
  n16 : n ≤ 16
  n0 : 0 < n
  st : stOk s.xs
  lo : 0 ≤ s.lost
  hi : s.lost ≤ 4611686018427387904
theorem shows_v (s : VS) (gp : Int) (W : World) : Calls Try.prog 53 #[.agg #[.int .i64 s.m, .int .i64 s.p0, .int .i64 s.p1, .bool s.o0, .bool s.o1, .bool s.sp, .int .u32 s.a, .int .u32 s.b], .agg #[.int .i64 (best s.xs).id, .int .i64 (best s.xs).pr, .int .i64 (best s.xs).gr, .bool (best s.xs).is], .int .i64 gp] W fun e w' => e = .returned (.int .i64 (showN s gp)) ∧ Below W.heap.size W w' :=
  Shows_c s.m s.p0 s.p1 s.o0 s.o1 s.sp s.a s.b (best s.xs).id (best s.xs).pr (best s.xs).gr (best s.xs).is gp W
theorem shows_r (s : VS) (gp : Int) (W : World) : Calls Try.prog 85 #[.agg (RC s.m s.p0 s.p1 s.o0 s.o1 s.sp (rb s.a s.b)), .agg #[.int .i64 (best s.xs).id, .int .i64 (best s.xs).pr, .int .i64 (best s.xs).gr, .bool (best s.xs).is], .int .i64 gp] W fun e w' => e = .returned (.int .i64 (showN s gp)) ∧ Below W.heap.size W w' :=
  rShows_c s.m s.p0 s.p1 s.o0 s.o1 s.sp s.a s.b (best s.xs).id (best s.xs).pr (best s.xs).gr (best s.xs).is gp W
theorem and24 (x : Int) : bits .and .u64 x 16777215 = x % 16777216 := and_low_u x 24 (by decide)
theorem nbeq {r k : Int} (h : ¬ r = k) : (r == k) = false := by simpa using h
section
variable (n g bl : Nat) (s : VS) (h : SOk n s) (hne : ¬ g = bl) (w : World) (hl : isRow w bl) (hl' : rowAt w bl = FA s.xs)
include h hne hl hl'
theorem rdo_c (hr : isRow w g) (hr' : rowAt w g = rrow n bl s) (r : Int) (wr : Bool) (x : Int) (x0 : 0 ≤ x) (x1 : x ≤ 18446744073709551615) :
    Calls Try.prog 64 #[.pointer (some ⟨g, 0, none⟩), .int .i64 r, .bool wr, .int .u64 x] w fun e w' => e = .returned (.tuple #[.int .u64 (doV s r wr x).2.n, .bool (doV s r wr x).2.ok, .int .i64 (doV s r wr x).2.mm, .bool (doV s r wr x).2.is]) ∧
      Row w' g (rrow n bl (doV s r wr x).1) ∧ Row w' bl (FA (doV s r wr x).1.xs) ∧ Aside2 g bl w w' := by
  obtain ⟨rfl, h16, h0, hst, hlo, hhi⟩ := h
  have hne' : ¬ bl = g := fun e => hne e.symm
  have y0 : 0 ≤ x % 16777216 := by omega
  have y1 : x % 16777216 ≤ 16777215 := by omega
  obtain ⟨m, p0, p1, o0, o1, sp, a, b, xs, lost⟩ := s
  unfold doV
  unfold rrow at hr' ⊢
  cases wr with
  | false =>
    simp only [if_true]
    have HA := fun gp : Int => Lib.hid (fun (W : World) q1 q2 q3 q4 => rack_c g bl m p0 p1 o0 o1 sp a b xs h16 lost gp hne W q1 q2 q3 q4)
    have HB := Lib.hid (fun (W' : World) (h : isRow W' bl) (h' : rowAt W' bl = FA xs) => rbest h16 h h')
    by_cases r1 : r = 1
    · subst r1; rw [if_pos rfl]
      exact rdo_a0 g bl _ RC_size xs.length (FA xs) lost _ _ _ w hr hr' hl hl' hne hne' x _ x0 rfl y0 y1 _ (HA 0)
    by_cases r2 : r = 2
    · subst r2; rw [if_neg (by decide), if_pos rfl]
      exact rdo_a1 g bl _ RC_size xs.length (FA xs) lost _ _ _ w hr hr' hl hl' hne hne' x _ x0 rfl y0 y1 _ (HA 1)
    by_cases r13 : r = 13
    · subst r13; rw [if_neg (by decide), if_neg (by decide), if_pos rfl]
      exact rdo_s0 g bl _ RC_size xs.length (FA xs) lost w hr hr' hl hl' hne hne' x _ x0 rfl y0 y1 _ _ _ _ _ HB (Lib.hid (shows_r ⟨m, p0, p1, o0, o1, sp, a, b, xs, lost⟩ 0))
    by_cases r14 : r = 14
    · subst r14; rw [if_neg (by decide), if_neg (by decide), if_neg (by decide), if_pos rfl]
      exact rdo_s1 g bl _ RC_size xs.length (FA xs) lost w hr hr' hl hl' hne hne' x _ x0 rfl y0 y1 _ _ _ _ _ HB (Lib.hid (shows_r ⟨m, p0, p1, o0, o1, sp, a, b, xs, lost⟩ 1))
    rw [if_neg r1, if_neg r2, if_neg r13, if_neg r14]
    exact rdo_r g bl _ RC_size xs.length (FA xs) lost w hr hr' hl hl' hne hne' x _ x0 rfl y0 y1 r (nbeq r1) (nbeq r2) (nbeq r13) (nbeq r14) _ _ (Lib.hid (rReadI_c m p0 p1 o0 o1 sp a b r))
  | true =>
    rw [if_neg (by decide)]
    have HE := fun gp : Int => Lib.hid (fun (W : World) q1 q2 q3 q4 => reoi_c g bl m p0 p1 o0 o1 sp a b xs h16 hst lost gp (x % 16777216) hlo hhi hne W q1 q2 q3 q4)
    have HD := Lib.hid (fun (W : World) q1 q2 q3 q4 => rdir_c g bl m p0 p1 o0 o1 sp a b xs h16 hst lost (x % 16777216) hlo hhi hne W q1 q2 q3 q4)
    by_cases r3 : r = 3
    · subst r3; rw [if_pos rfl]
      exact rdo_e0 g bl _ RC_size xs.length (FA xs) lost _ _ _ w hr hr' hl hl' hne hne' x _ x0 rfl y0 y1 _ _ (HE 0)
    by_cases r4 : r = 4
    · subst r4; rw [if_neg (by decide), if_pos rfl]
      exact rdo_e1 g bl _ RC_size xs.length (FA xs) lost _ _ _ w hr hr' hl hl' hne hne' x _ x0 rfl y0 y1 _ _ (HE 1)
    by_cases r5 : r = 5
    · subst r5; rw [if_neg (by decide), if_neg (by decide), if_pos rfl]
      exact rdo_d g bl _ RC_size xs.length (FA xs) lost _ _ _ w hr hr' hl hl' hne hne' x _ x0 rfl y0 y1 _ _ HD
    rw [if_neg r3, if_neg r4, if_neg r5]
    exact rdo_w g bl _ RC_size xs.length (FA xs) lost _ RC_size RC_one w hr hr' hl hl' hne hne' x _ x0 rfl y0 y1 r (nbeq r3) (nbeq r4) (nbeq r5) _ (Lib.hid (fun W => rWriteI_c m p0 p1 o0 o1 sp a b r x x0 x1 W))
end
end Go.Proofs.Ytkbaghblchlcnaa.Lr
namespace Go.Proofs.Ytkbaghblchlcnaa
open Go.RowKit Go.Shelf
/-- the blocks of P may have turned; of what lay all else lies as it lay -/
structure AsideP (P : Nat → Prop) (w w' : World) : Prop where
  os : w'.os = w.os
  tape : w'.tape = w.tape
  output : w'.output = w.output
  size : w.heap.size ≤ w'.heap.size
  block : ∀ k, k < w.heap.size → ¬ P k → w'.heap[k]? = w.heap[k]?
section
variable {P : Nat → Prop} {g h k : Nat} {w W w1 w2 : World} {cs : Array Value} {v : Value}
theorem AsideP.of_below (b : Below w.heap.size w W) : AsideP P w W := ⟨b.os, b.tape, b.output, b.size, fun k hk _ => b.block k hk⟩
theorem AsideP.trans (a : AsideP P w w1) (b : AsideP P w1 w2) : AsideP P w w2 :=
  ⟨b.os.trans a.os, b.tape.trans a.tape, b.output.trans a.output, Nat.le_trans a.size b.size, fun k hk h1 => (b.block k (Nat.lt_of_lt_of_le hk a.size) h1).trans (a.block k hk h1)⟩
theorem AsideP.low (a : AsideP P w W) (b : Below W.heap.size W w2) : AsideP P w w2 := a.trans (.of_below b)
theorem AsideP.two (a : AsideP P w W) (b : Aside2 g h W w2) (hg : P g) (hh : P h) : AsideP P w w2 :=
  a.trans ⟨b.os, b.tape, b.output, b.size, fun k hk hn => b.block k hk (fun e => hn (e ▸ hg)) (fun e => hn (e ▸ hh))⟩
theorem AsideP.below {n : Nat} {a : World} (b : AsideP P w W) (hb : Below n a w) (hP : ∀ k, P k → n ≤ k) (hn : n ≤ w.heap.size) : Below n a W :=
  ⟨b.os.trans hb.os, b.tape.trans hb.tape, b.output.trans hb.output, Nat.le_trans hb.size b.size, fun k hk => (b.block k (by omega) (fun e => by have := hP k e; omega)).trans (hb.block k hk)⟩
theorem asideP_alloc_e {o : Obj} (hs : w.heap.size ≤ W.heap.size) : AsideP P w (W.alloc o) = AsideP P w W := propext ⟨fun a => ⟨a.os, a.tape, a.output, hs, fun k hk h1 => by
    rw [← a.block k hk h1]
    show W.heap[k]? = (W.heap.push o)[k]?
    rw [Array.getElem?_push, if_neg (by omega)]⟩, fun a => a.trans (.of_below ((Below.refl _ W).alloc (Nat.le_refl _) o))⟩
theorem asideP_setCell_e {p : Addr} (hp : P p.block ∨ w.heap.size ≤ p.block) : AsideP P w (W.setCell p v) = AsideP P w W := propext
  ⟨fun a => ⟨a.os, a.tape, a.output, by simpa using a.size, fun k hk h1 => by
    rw [← a.block k hk h1]
    exact (Below.heap_setCell W p v k (fun e => by subst e; rcases hp with hp | hp; exact h1 hp; omega)).symm⟩,
   fun a => ⟨a.os, a.tape, a.output, by simpa using a.size, fun k hk h1 => (Below.heap_setCell W p v k (fun e => by subst e; rcases hp with hp | hp; exact h1 hp; omega)).trans (a.block k hk h1)⟩⟩
theorem asideP_setRow_e {p : Nat} (hp : P p ∨ w.heap.size ≤ p) : AsideP P w (W.setRow p cs) = AsideP P w W := propext
  ⟨fun a => ⟨a.os, a.tape, a.output, by simpa using a.size, fun k hk h1 => by
    rw [← a.block k hk h1]
    exact (setRow_other W p k cs (fun e => by subst e; rcases hp with hp | hp; exact h1 hp; omega)).symm⟩,
   fun a => ⟨a.os, a.tape, a.output, by simpa using a.size, fun k hk h1 => (setRow_other W p k cs (fun e => by subst e; rcases hp with hp | hp; exact h1 hp; omega)).trans (a.block k hk h1)⟩⟩
theorem asideP_drew_e : AsideP P w W.drew = AsideP P w W := propext ⟨fun a => ⟨a.os, a.tape, a.output, a.size, a.block⟩, fun a => ⟨a.os, a.tape, a.output, a.size, a.block⟩⟩
theorem asideP_drewN_e {n : Nat} : AsideP P w (W.drewN n) = AsideP P w W := propext ⟨fun a => ⟨a.os, a.tape, a.output, a.size, a.block⟩, fun a => ⟨a.os, a.tape, a.output, a.size, a.block⟩⟩
theorem asideP_refl_e : AsideP P w w = True := propext ⟨fun _ => trivial, fun _ => .of_below (Below.refl _ _)⟩
end
/-- one of four -/
def In4 (a b c d k : Nat) : Prop := k = a ∨ k = b ∨ k = c ∨ k = d
theorem in4a {a b c d : Nat} : In4 a b c d a := .inl rfl
theorem in4b {a b c d : Nat} : In4 a b c d b := .inr (.inl rfl)
theorem in4c {a b c d : Nat} : In4 a b c d c := .inr (.inr (.inl rfl))
theorem in4d {a b c d : Nat} : In4 a b c d d := .inr (.inr (.inr rfl))
theorem not_in4 {a b c d k : Nat} (h1 : ¬ k = a) (h2 : ¬ k = b) (h3 : ¬ k = c) (h4 : ¬ k = d) : ¬ In4 a b c d k := fun h => by rcases h with h | h | h | h; exact h1 h; exact h2 h; exact h3 h; exact h4 h
end Go.Proofs.Ytkbaghblchlcnaa
namespace Go.Proofs.Ytkbaghblchlcnaa.Lr
open Go.RowKit Go.Shelf Go.Proofs.YtkbaghblchlcnaaW.PrintWords Go.Proofs.Ytkbaghblchlcnaa.IAll
open Classical in
noncomputable def loadN (n : Nat) (ls : List S54) : Int := if n < ls.length then 1 else if goodL ls then 0 else 200
open Classical in
noncomputable def loadXs (n : Nat) (xs ls : List S54) : List S54 := if n < ls.length then xs else if goodL ls then tgt ls n else xs
noncomputable def loadS (n : Nat) (s : VS) (ls : List S54) : VS := { s with xs := loadXs n s.xs ls }
section
variable (n g bl : Nat) (s : VS) (h : SOk n s) (hne : ¬ g = bl) (w : World) (hl : isRow w bl) (hl' : rowAt w bl = FA s.xs) (A : Option Addr) (c : Nat) (ls : List S54) (hC : Kd.C k54 w A ls.length ls) (hc : ls.length ≤ c)
include h hne hl hl' hC hc
theorem rload_c (hA : ∀ ad, A = some ad → 0 < ls.length → ad.block < w.heap.size ∧ ad.block ≠ bl ∧ ad.block ≠ g) (hr : isRow w g) (hr' : rowAt w g = rrow n bl s) :
    Calls Try.prog 62 #[.pointer (some ⟨g, 0, none⟩), .slice A ls.length c] w fun e w' => e = .returned (.int .i64 (loadN n ls)) ∧ Row w' g (rrow n bl (loadS n s ls)) ∧ Row w' bl (FA (loadS n s ls).xs) ∧ Aside2 g bl w w' := by
  obtain ⟨rfl, h16, h0, hst, hlo, hhi⟩ := h
  have hne' : ¬ bl = g := fun e => hne e.symm
  obtain ⟨m, p0, p1, o0, o1, sp, a, b, xs, lost⟩ := s
  have h16' : xs.length ≤ 16 := h16
  unfold loadS loadN loadXs
  unfold rrow at hr' ⊢
  by_cases hlt : xs.length < ls.length
  · simp only [if_pos hlt]
    exact rload_big g bl _ RC_size xs.length lost A c ls xs w hr hr' hl hl' hne hne' hlt
  · simp only [if_neg hlt]
    by_cases hg : goodL ls
    · simp only [if_pos hg]
      exact rload_ok g bl _ RC_size xs.length lost A c ls xs w hr hr' hl hl' hne hne' hlt (Lib.hid hC) (Lib.hid (fun W hW => crierref20_Right.calls 400 A c ls 0 W hW hc (rright_good ls (by omega) hg))) (Lib.hid rfl) h16 hA
    · simp only [if_neg hg]
      exact rload_bad g bl _ RC_size xs.length lost A c ls xs w hr hr' hl hl' hne hne' hlt (Lib.hid hC) (Lib.hid (fun W hW => crierref20_Right.calls 400 A c ls 200 W hW hc (rright_bad ls (by omega) hg)))
end
/-- what stands in the list registers behind an unload -/
def freeS (n : Nat) (s : VS) : VS := { s with xs := List.replicate n z54 }
theorem runload'_c (n g bl : Nat) (s : VS) (h : SOk n s) (hne : ¬ g = bl) (w : World) (hl : isRow w bl) (hl' : rowAt w bl = FA s.xs) (hr : isRow w g) (hr' : rowAt w g = rrow n bl s) :
    Calls Try.prog 63 #[.pointer (some ⟨g, 0, none⟩)] w fun e w' => ∃ v, e = .returned v ∧ w'.ownsRow w.heap.size 54 7 v (nf s.xs).length (fl (nf s.xs)) ∧ Row w' g (rrow n bl (freeS n s)) ∧ Row w' bl (FA (freeS n s).xs) ∧ Aside2 g bl w w' := by
  obtain ⟨rfl, h16, h0, hst, hlo, hhi⟩ := h
  exact runload_c g bl _ RC_size s.xs.length s.lost s.xs w hr hr' hl hl' hne (fun e => hne e.symm) (Lib.hid rfl) h16
/-- a row of list registers of the call's own is read -/
theorem own_reads {W : World} {base : Nat} {v : Value} {ys : List S54} (h : W.ownsRow base 54 7 v ys.length (fl ys)) (hl : ys.length ≤ 9223372036854775807) : ∃ A c, v = .slice A ys.length c ∧ ys.length ≤ c ∧ Kd.C k54 W A ys.length ys := by
  obtain ⟨-, h2⟩ := h
  rcases h2 with ⟨rfl, h0⟩ | ⟨g, cap, cur, rfl, hg, hh, hcap, hmax, hcs, htk⟩
  · exact ⟨none, 0, by rw [h0], by omega, ⟨rfl, hl, fun hn => by omega⟩⟩
  · refine ⟨some ⟨g, 0, none⟩, cap, rfl, hcap, rfl, hl, fun _ => ⟨⟨g, 0, none⟩, rfl, fun j p hp => ⟨(enc p).toList, rfl, k54_mk W p, fun i u hu => ?_⟩⟩⟩
    have hj : j < ys.length := (List.getElem?_eq_some_iff.1 hp).1
    have hi : i < 7 := by have := (List.getElem?_eq_some_iff.1 hu).1; simpa [enc] using this
    have ea : (⟨g, 0, none⟩ : Addr).add (j * 7 + i) = ⟨g, j * 7 + i, none⟩ := addr_at g _
    show W.cell? ((⟨g, 0, none⟩ : Addr).add (j * 7 + i)) = _
    have hrow : Row W g cur := Row.of (t := 54) hh
    rw [ea, cell_row hrow.1, hrow.2, ← hu]
    have hg2 := fl_get ys j i hj hi
    rw [← htk, List.getElem?_take_of_lt (by omega), Array.getElem?_toList] at hg2
    rw [hg2, List.getD_eq_getElem?_getD, hp]; rfl
end Go.Proofs.Ytkbaghblchlcnaa.Lr
namespace Go.Proofs.Ytkbaghblchlcnaa.Lr
open Go.RowKit Go.Shelf Go.Proofs.YtkbaghblchlcnaaW.PrintWords Go.Proofs.Ytkbaghblchlcnaa.IAll
theorem aside2_own {W w1 : World} {g h n₀ : Nat} {e : TypeId} {size : Nat} {v : Value} {k : Nat} {xs : List Value} (hrow : W.ownsRow n₀ e size v k xs) (a : Aside2 g h W w1) (hg : g < n₀) (hh : h < n₀) : w1.ownsRow n₀ e size v k xs :=
  own_move hrow (fun j hj => a.block j (own_lt hrow j hj) (by have := own_base hrow j hj; omega) (by have := own_base hrow j hj; omega))
attribute [local go_sem] Oper.semAt_some cell_row frozen_row isRow_setCell_eq rowAt_setCell_same rowAt_setCell_other isRow_alloc_eq rowAt_alloc rowAt_new rowAt_new' isRow_setRow_eq rowAt_setRow_same rowAt_setRow_other isRow_drew rowAt_drew size_setRow_ Lb_size Lb_at blk_ptr aggOf_agg below_alloc_e below_setCell_e below_setRow_e below_refl_e below_drew_r aside2_alloc_e aside2_setCell_e aside2_setRow_e aside2_drew_e aside2_refl_e aside2_drewN_e isRow_drewN rowAt_drewN below_drewN_e le_add_r offv_ptr one_lad zero_lad allOne_nil allOne_cons Value.oneCell' addr_at FA_size one_FA asideP_alloc_e asideP_setCell_e asideP_setRow_e asideP_drew_e asideP_drewN_e asideP_refl_e in4a in4b in4c in4d
attribute [local go_sem ↓] storeI storeC storeE
attribute [local go_sem] eq2i eq2b eq2u
end Go.Proofs.Ytkbaghblchlcnaa.Lr
namespace Go.Proofs.Ytkbaghblchlcnaa.Lr
open Go.RowKit Go.Shelf Go.Proofs.YtkbaghblchlcnaaW.PrintWords Go.Proofs.Ytkbaghblchlcnaa.IAll
theorem spl_size {cur cs : Array Value} {o : Nat} (h : o + cs.size ≤ cur.size) : (spl cur o cs).size = cur.size := by
  unfold spl; simp; omega
/-- the row that the call has made for itself -/
def OwnAt (A : Option Addr) (n K base : Nat) (w : World) : Prop := 0 < n → ∃ ob, A = some ⟨ob, 0, none⟩ ∧ base ≤ ob ∧ isRow w ob ∧ (rowAt w ob).size = K
theorem own_parts {W : World} {base n : Nat} {v : Value} {cs : List Value} (h : W.ownsRow base 54 7 v n cs) : ∃ A c, v = .slice A n c ∧ n ≤ c ∧ OwnAt A n (c * 7) base W := by
  rcases h.2 with ⟨rfl, h0⟩ | ⟨g, cap, cur, rfl, hg, hh, hcap, hmax, hcs, htk⟩
  · exact ⟨none, 0, by rw [h0], by omega, fun hn => by omega⟩
  · have hrow : Row W g cur := Row.of (t := 54) hh
    exact ⟨some ⟨g, 0, none⟩, cap, rfl, hcap, fun _ => ⟨g, rfl, hg, hrow.1, by rw [hrow.2, hcs]⟩⟩
theorem OwnAt.aside2 {A : Option Addr} {n K base g h : Nat} {W w1 : World} (q : OwnAt A n K base W) (a : Aside2 g h W w1) (hg : g < base) (hh : h < base) : OwnAt A n K base w1 := fun hn => by
  obtain ⟨ob, e, hb, o1, o2⟩ := q hn
  obtain ⟨p1, p2⟩ := a.row ⟨o1, rfl⟩ (show ob ≠ g by omega) (show ob ≠ h by omega)
  exact ⟨ob, e, hb, p1, by rw [p2]; exact o2⟩
theorem cfar_p {P : Nat → Prop} {w W : World} {A : Option Addr} {ls : List S54} (h : Kd.C k54 w A ls.length ls) (a : AsideP P w W) (hb : ∀ ad, A = some ad → 0 < ls.length → ad.block < w.heap.size ∧ ¬ P ad.block) : Kd.C k54 W A ls.length ls :=
  C_far h (fun ad e hn => a.block _ (hb ad e hn).1 (hb ad e hn).2)
theorem infoL4 : (Try.prog.info? 54).map (fun i => (i.zero, i.size, i.bytes)) = some (some (.agg (enc z54)), k54.sz, 56) := by kernel_rfl
theorem row_lo {w W : World} {n k : Nat} {cs : Array Value} (h : Row w k cs) (b : Below n w W) (hk : k < n) : Row W k cs := h.below b hk
attribute [local go_sem] Oper.semAt_some cell_row frozen_row isRow_setCell_eq rowAt_setCell_same rowAt_setCell_other isRow_alloc_eq rowAt_alloc rowAt_new rowAt_new' isRow_setRow_eq rowAt_setRow_same rowAt_setRow_other isRow_drew rowAt_drew size_setRow_ Lb_size Lb_at blk_ptr aggOf_agg below_alloc_e below_setCell_e below_setRow_e below_refl_e below_drew_r aside2_alloc_e aside2_setCell_e aside2_setRow_e aside2_drew_e aside2_refl_e aside2_drewN_e isRow_drewN rowAt_drewN below_drewN_e le_add_r offv_ptr one_lad zero_lad allOne_nil allOne_cons Value.oneCell' addr_at FA_size one_FA asideP_alloc_e asideP_setCell_e asideP_setRow_e asideP_drew_e asideP_drewN_e asideP_refl_e in4a in4b in4c in4d
attribute [local go_sem ↓] storeI storeC storeE storeLm
attribute [local go_sem] eq2i eq2b eq2u
end Go.Proofs.Ytkbaghblchlcnaa.Lr
namespace Go.Proofs.Ytkbaghblchlcnaa.Lr
open Go.RowKit Go.Shelf Go.Proofs.YtkbaghblchlcnaaW.PrintWords Go.Proofs.Ytkbaghblchlcnaa.IAll
noncomputable def actS (n : Nat) (s : VS) (d : Int) (ls : List S54) (r : Int) (wr : Bool) (x : Int) : VS :=
  if d = 1 then loadS n s ls else if d = 2 then freeS n s else if d = 3 then (doV s r wr x).1 else s
/-- each element of a list satisfies p -/
def allL (p : S54 → Prop) (xs : List S54) : Prop := ∀ k : Nat, k < xs.length → p (rd_T54 xs k)
theorem rd_set (xs : List S54) (k j : Nat) (e : S54) (hj : j < xs.length) : rd_T54 (xs.set k e) j = if j = k then e else rd_T54 xs j := by
  unfold rd_T54
  simp only [Int.toNat_natCast, List.getD_eq_getElem?_getD, List.getElem?_set]
  by_cases hjk : k = j
  · subst hjk; simp [hj]
  · rw [if_neg hjk, if_neg (fun e => hjk e.symm)]
theorem allL_set {p : S54 → Prop} {xs : List S54} (h : allL p xs) (k : Nat) (e : S54) (he : p e) : allL p (xs.set k e) := fun j hj => by
  rw [List.length_set] at hj
  rw [rd_set xs k j e hj]
  split
  · exact he
  · exact h j hj
theorem stOk_set {xs : List S54} (h : stOk xs) (k : Nat) (st : Int) (hs : st ≤ 3) : stOk (setSt xs k st) := allL_set (p := fun e => e.f0 ≤ 3) h k _ hs
theorem ackXs_length (m p0 p1 : Int) (o0 o1 : Bool) (a b : Int) (xs : List S54) (gp : Int) : (ackXs m p0 p1 o0 o1 a b xs gp).length = xs.length := by unfold ackXs; split <;> simp [setSt_length]
theorem endXs_length (xs : List S54) (id : Int) : (endXs xs id).length = xs.length := by unfold endXs; split <;> simp [setSt_length]
theorem gXs_length (id : Int) (xs : List S54) (go : Bool) : (gXs id xs go).length = xs.length := by unfold gXs; split <;> simp [endXs_length]
theorem ackXs_st (m p0 p1 : Int) (o0 o1 : Bool) (a b : Int) (xs : List S54) (gp : Int) (h : stOk xs) : stOk (ackXs m p0 p1 o0 o1 a b xs gp) := by
  unfold ackXs
  split
  · exact stOk_set h _ _ (by split <;> omega)
  · exact h
theorem endXs_st (xs : List S54) (id : Int) (h : stOk xs) : stOk (endXs xs id) := by
  unfold endXs
  split
  · refine stOk_set h _ _ ?_
    rcases find_range xs id with hf | ⟨k, hf, hk, _⟩
    · rename_i hok; unfold endOk at hok; rw [hf] at hok; simp at hok
    · rw [hf]; have := h k hk; omega
  · exact h
theorem gXs_st (id : Int) (xs : List S54) (go : Bool) (h : stOk xs) : stOk (gXs id xs go) := by
  unfold gXs; split
  · exact endXs_st xs id h
  · exact h
theorem gLost_bd (id : Int) (xs : List S54) (go : Bool) (lost : Int) : lost ≤ gLost id xs go lost ∧ gLost id xs go lost ≤ lost + 1 := by
  unfold gLost endLost
  split
  · split
    · omega
    · split <;> omega
  · omega
theorem rep_st (n : Nat) : stOk (List.replicate n z54) := fun k hk => by
  have : rd_T54 (List.replicate n z54) k = z54 := by
    unfold rd_T54
    rw [List.getD_eq_getElem?_getD, List.getElem?_replicate]; split <;> rfl
  rw [this]; decide
theorem good_st {ls : List S54} (h : goodL ls) : stOk ls := fun k hk => by
  have : okS (rd_T54 ls k) := Classical.not_not.1 fun hn => h ⟨k, hk, .inl hn⟩
  exact this.1.2.1
theorem rd_app_lo (xs ys : List S54) (k : Nat) (h : k < xs.length) : rd_T54 (xs ++ ys) k = rd_T54 xs k := by
  unfold rd_T54; simp only [Int.toNat_natCast, List.getD_eq_getElem?_getD]; rw [List.getElem?_append_left h]
theorem rd_app_hi (xs ys : List S54) (k : Nat) (h : xs.length ≤ k) : rd_T54 (xs ++ ys) k = rd_T54 ys (k - xs.length : Nat) := by
  unfold rd_T54; simp only [Int.toNat_natCast, List.getD_eq_getElem?_getD]; rw [List.getElem?_append_right h]
theorem app_all {p : S54 → Prop} {xs ys : List S54} (h1 : allL p xs) (h2 : allL p ys) : allL p (xs ++ ys) := fun k hk => by
  rw [List.length_append] at hk
  rcases Nat.lt_or_ge k xs.length with h | h
  · rw [rd_app_lo xs ys k h]; exact h1 k h
  · rw [rd_app_hi xs ys k h]; exact h2 _ (by omega)
theorem loadXs_st (n : Nat) (xs ls : List S54) (h : stOk xs) : stOk (loadXs n xs ls) := by
  unfold loadXs
  split
  · exact h
  · split
    · rename_i hg
      exact app_all (p := fun e => e.f0 ≤ 3) (good_st hg) (rep_st _)
    · exact h
theorem loadXs_length (n : Nat) (xs ls : List S54) (h : xs.length = n) : (loadXs n xs ls).length = n := by
  unfold loadXs
  split
  · exact h
  · split
    · exact tgt_length ls n (by omega)
    · exact h
theorem doV_ok (n : Nat) (s : VS) (h : SOk n s) (r : Int) (wr : Bool) (x : Int) :
    (doV s r wr x).1.xs.length = n ∧ stOk (doV s r wr x).1.xs ∧ s.lost ≤ (doV s r wr x).1.lost ∧ (doV s r wr x).1.lost ≤ s.lost + 1 := by
  have same : s.xs.length = n ∧ stOk s.xs ∧ s.lost ≤ s.lost ∧ s.lost ≤ s.lost + 1 := ⟨h.len, h.st, by omega, by omega⟩
  have ack : ∀ gp, (ackS s gp).xs.length = n ∧ stOk (ackS s gp).xs ∧ s.lost ≤ (ackS s gp).lost ∧ (ackS s gp).lost ≤ s.lost + 1 := fun gp =>
    ⟨(ackXs_length _ _ _ _ _ _ _ _ _).trans h.len, ackXs_st _ _ _ _ _ _ _ _ _ h.st, Int.le_refl _, by show s.lost ≤ s.lost + 1; omega⟩
  have eoi : ∀ gp id, (eoiS s gp id).xs.length = n ∧ stOk (eoiS s gp id).xs ∧ s.lost ≤ (eoiS s gp id).lost ∧ (eoiS s gp id).lost ≤ s.lost + 1 := fun gp id =>
    ⟨(gXs_length _ _ _).trans h.len, gXs_st _ _ _ h.st, (gLost_bd _ _ _ _).1, (gLost_bd _ _ _ _).2⟩
  have dir : ∀ id, (dirS s id).xs.length = n ∧ stOk (dirS s id).xs ∧ s.lost ≤ (dirS s id).lost ∧ (dirS s id).lost ≤ s.lost + 1 := fun id =>
    ⟨(gXs_length _ _ _).trans h.len, gXs_st _ _ _ h.st, (gLost_bd _ _ _ _).1, (gLost_bd _ _ _ _).2⟩
  unfold doV
  split
  · split
    · exact ack 0
    · split
      · exact ack 1
      · split
        · exact same
        · split <;> exact same
  · split
    · exact eoi 0 _
    · split
      · exact eoi 1 _
      · split
        · exact dir _
        · exact same
theorem actS_ok (n : Nat) (s : VS) (h : SOk n s) (hl : s.lost + 1 ≤ 4611686018427387904) (d : Int) (ls : List S54) (r : Int) (wr : Bool) (x : Int) : SOk n (actS n s d ls r wr x) ∧ (actS n s d ls r wr x).lost ≤ s.lost + 1 := by
  have lo := h.lo
  unfold actS
  split
  · exact ⟨⟨loadXs_length n _ _ h.len, h.n16, h.n0, loadXs_st n _ _ h.st, h.lo, h.hi⟩, by show s.lost ≤ s.lost + 1; omega⟩
  · split
    · exact ⟨⟨by simp [freeS], h.n16, h.n0, rep_st n, h.lo, h.hi⟩, by show s.lost ≤ s.lost + 1; omega⟩
    · split
      · obtain ⟨q1, q2, q3, q4⟩ := doV_ok n s h r wr x
        exact ⟨⟨q1, h.n16, h.n0, q2, by omega, by omega⟩, q4⟩
      · exact ⟨h, by omega⟩
end Go.Proofs.Ytkbaghblchlcnaa.Lr
namespace Go.Proofs.Ytkbaghblchlcnaa.Lr.Wd
open Go.RowKit Go.Shelf Go.Proofs.YtkbaghblchlcnaaW.PrintWords Go.Proofs.Ytkbaghblchlcnaa.IAll
attribute [local go_sem] Oper.semAt_some cell_row frozen_row isRow_setCell_eq rowAt_setCell_same rowAt_setCell_other isRow_alloc_eq rowAt_alloc rowAt_new rowAt_new' isRow_setRow_eq rowAt_setRow_same rowAt_setRow_other isRow_drew rowAt_drew size_setRow_ Lb_size Lb_at blk_ptr aggOf_agg below_alloc_e below_setCell_e below_setRow_e below_refl_e below_drew_r aside2_alloc_e aside2_setCell_e aside2_setRow_e aside2_drew_e aside2_refl_e aside2_drewN_e isRow_drewN rowAt_drewN below_drewN_e le_add_r offv_ptr one_lad zero_lad allOne_nil allOne_cons Value.oneCell' addr_at FA_size one_FA
attribute [local go_sem ↓] storeI storeC storeE
attribute [local go_sem] eq2i eq2b eq2u
set_option maxRecDepth 100000 in
set_option maxHeartbeats 2000000 in
theorem end_A (g bl : Nat) (m p0 p1 : Int) (o0 o1 sp : Bool) (a b : Int) (n cc : Nat) (C : Array Value) (lost id : Int) (w : World) (hr : isRow w g) (hr' : rowAt w g = #[.int .i64 m, .int .i64 p0, .int .i64 p1, .bool o0, .bool o1, .bool sp, .int .u32 a, .int .u32 b, .slice (some ⟨bl, 0, none⟩) n cc, .int .i64 lost]) (hl : isRow w bl) (hl' : rowAt w bl = C) (hne : ¬ g = bl) (hne' : ¬ bl = g) (hlo : 0 ≤ lost) (hlo2 : lost ≤ 4611686018427387904) (hid : id < 1020)
    (HF : Hid (∀ W : World, isRow W bl → rowAt W bl = C → Calls Try.prog 22 #[.slice (some ⟨bl, 0, none⟩) n cc, .int .i64 id] W fun e w' => e = .returned (.int .i64 (-1)) ∧ Below W.heap.size W w')) :
    Calls Try.prog 49 #[.pointer (some ⟨g, 0, none⟩), .int .i64 id] w fun e w' => e = .returned (.agg #[.bool false, .int .i64 (-1)]) ∧ Row w' g #[.int .i64 m, .int .i64 p0, .int .i64 p1, .bool o0, .bool o1, .bool sp, .int .u32 a, .int .u32 b, .slice (some ⟨bl, 0, none⟩) n cc, .int .i64 (lost + 1)] ∧ Row w' bl C ∧ Aside2 g bl w w' := by
  have _u : True := by have _ := hne; have _ := hne'; have _ := hlo; have _ := hlo2; trivial
  clear _u
  have lr := hr.lt
  have ll := hl.lt
  have nr : ¬ g = w.heap.size := by omega
  have rn : ¬ w.heap.size = g := by omega
  have nl : ¬ bl = w.heap.size := by omega
  have ln : ¬ w.heap.size = bl := by omega
  skip
  have hB_0 : Below w.heap.size w w := Below.refl _ _
  have ne_V_E : ¬ g = w.heap.size := by omega
  have en_V_E : ¬ w.heap.size = g := by omega
  have ne_L_E : ¬ bl = w.heap.size := by omega
  have en_L_E : ¬ w.heap.size = bl := by omega
  go_enter Try.func49, Try.ntmps49
  go_wp2_with fail
  refine (HF.out _ (by go_simp) (by go_simp)).mono ?_
  rintro e v1 ⟨rfl, hb1⟩
  obtain ⟨V_1, V_1'⟩ : Row v1 g #[.int .i64 m, .int .i64 p0, .int .i64 p1, .bool o0, .bool o1, .bool sp, .int .u32 a, .int .u32 b, .slice (some ⟨bl, 0, none⟩) n cc, .int .i64 lost] := Row.step (by go_simp) (by go_simp) hb1
  obtain ⟨L_1, L_1'⟩ : Row v1 bl C := Row.step (by go_simp) (by go_simp) hb1
  obtain ⟨E_1, E_1'⟩ : Row v1 w.heap.size #[.bool false, .int .i64 0] := Row.step (by go_simp) (by go_simp) hb1
  have hB_1 : Below w.heap.size w v1 := bk (by go_simp) (by first | (go_simp; done) | (go_simp; omega) | exact Below.size (by assumption)) hb1
  clear hr hr' hl hl' hB_0 hb1
  have hz_1 : w.heap.size ≤ v1.heap.size := hB_1.size
  have hl_V_1 := isRow.lt V_1
  have ne_V_1_0 : ¬ g = v1.heap.size := by omega
  have en_V_1_0 : ¬ v1.heap.size = g := by omega
  have hl_L_1 := isRow.lt L_1
  have ne_L_1_0 : ¬ bl = v1.heap.size := by omega
  have en_L_1_0 : ¬ v1.heap.size = bl := by omega
  have hl_E_1 := isRow.lt E_1
  have ne_E_1_0 : ¬ w.heap.size = v1.heap.size := by omega
  have en_E_1_0 : ¬ v1.heap.size = w.heap.size := by omega
  have hA : Aside2 g bl w v1 := .of_below hB_1
  clear hB_1
  go_wp2
  exact bodyPost_ret (resE _ rfl _ _ w.heap.size false (-1) rfl ⟨by go_simp, by go_simp⟩) rfl ⟨rfl, ⟨by go_simp, by go_simp⟩, ⟨by go_simp, by go_simp⟩, by go_simp⟩
set_option maxRecDepth 100000 in
set_option maxHeartbeats 2000000 in
theorem end_B (g bl : Nat) (m p0 p1 : Int) (o0 o1 sp : Bool) (a b : Int) (n cc : Nat) (C : Array Value) (lost id : Int) (w : World) (hr : isRow w g) (hr' : rowAt w g = #[.int .i64 m, .int .i64 p0, .int .i64 p1, .bool o0, .bool o1, .bool sp, .int .u32 a, .int .u32 b, .slice (some ⟨bl, 0, none⟩) n cc, .int .i64 lost]) (hl : isRow w bl) (hl' : rowAt w bl = C) (hne : ¬ g = bl) (hne' : ¬ bl = g) (hlo : 0 ≤ lost) (hlo2 : lost ≤ 4611686018427387904) (hid : ¬ id < 1020)
    (HF : Hid (∀ W : World, isRow W bl → rowAt W bl = C → Calls Try.prog 22 #[.slice (some ⟨bl, 0, none⟩) n cc, .int .i64 id] W fun e w' => e = .returned (.int .i64 (-1)) ∧ Below W.heap.size W w')) :
    Calls Try.prog 49 #[.pointer (some ⟨g, 0, none⟩), .int .i64 id] w fun e w' => e = .returned (.agg #[.bool false, .int .i64 (-1)]) ∧ Row w' g #[.int .i64 m, .int .i64 p0, .int .i64 p1, .bool o0, .bool o1, .bool sp, .int .u32 a, .int .u32 b, .slice (some ⟨bl, 0, none⟩) n cc, .int .i64 lost] ∧ Row w' bl C ∧ Aside2 g bl w w' := by
  have _u : True := by have _ := hne; have _ := hne'; have _ := hlo; have _ := hlo2; trivial
  clear _u
  have lr := hr.lt
  have ll := hl.lt
  have nr : ¬ g = w.heap.size := by omega
  have rn : ¬ w.heap.size = g := by omega
  have nl : ¬ bl = w.heap.size := by omega
  have ln : ¬ w.heap.size = bl := by omega
  skip
  have hB_0 : Below w.heap.size w w := Below.refl _ _
  have ne_V_E : ¬ g = w.heap.size := by omega
  have en_V_E : ¬ w.heap.size = g := by omega
  have ne_L_E : ¬ bl = w.heap.size := by omega
  have en_L_E : ¬ w.heap.size = bl := by omega
  go_enter Try.func49, Try.ntmps49
  go_wp2_with fail
  refine (HF.out _ (by go_simp) (by go_simp)).mono ?_
  rintro e v1 ⟨rfl, hb1⟩
  obtain ⟨V_1, V_1'⟩ : Row v1 g #[.int .i64 m, .int .i64 p0, .int .i64 p1, .bool o0, .bool o1, .bool sp, .int .u32 a, .int .u32 b, .slice (some ⟨bl, 0, none⟩) n cc, .int .i64 lost] := Row.step (by go_simp) (by go_simp) hb1
  obtain ⟨L_1, L_1'⟩ : Row v1 bl C := Row.step (by go_simp) (by go_simp) hb1
  obtain ⟨E_1, E_1'⟩ : Row v1 w.heap.size #[.bool false, .int .i64 0] := Row.step (by go_simp) (by go_simp) hb1
  have hB_1 : Below w.heap.size w v1 := bk (by go_simp) (by first | (go_simp; done) | (go_simp; omega) | exact Below.size (by assumption)) hb1
  clear hr hr' hl hl' hB_0 hb1
  have hz_1 : w.heap.size ≤ v1.heap.size := hB_1.size
  have hl_V_1 := isRow.lt V_1
  have ne_V_1_0 : ¬ g = v1.heap.size := by omega
  have en_V_1_0 : ¬ v1.heap.size = g := by omega
  have hl_L_1 := isRow.lt L_1
  have ne_L_1_0 : ¬ bl = v1.heap.size := by omega
  have en_L_1_0 : ¬ v1.heap.size = bl := by omega
  have hl_E_1 := isRow.lt E_1
  have ne_E_1_0 : ¬ w.heap.size = v1.heap.size := by omega
  have en_E_1_0 : ¬ v1.heap.size = w.heap.size := by omega
  have hA : Aside2 g bl w v1 := .of_below hB_1
  clear hB_1
  go_wp2
  exact bodyPost_ret (resE _ rfl _ _ w.heap.size false (-1) rfl ⟨by go_simp, by go_simp⟩) rfl ⟨rfl, ⟨by go_simp, by go_simp⟩, ⟨by go_simp, by go_simp⟩, by go_simp⟩
set_option maxRecDepth 100000 in
set_option maxHeartbeats 2000000 in
theorem end_C (g bl : Nat) (m p0 p1 : Int) (o0 o1 sp : Bool) (a b : Int) (n cc : Nat) (C : Array Value) (lost id : Int) (w : World) (hr : isRow w g) (hr' : rowAt w g = #[.int .i64 m, .int .i64 p0, .int .i64 p1, .bool o0, .bool o1, .bool sp, .int .u32 a, .int .u32 b, .slice (some ⟨bl, 0, none⟩) n cc, .int .i64 lost]) (hl : isRow w bl) (hl' : rowAt w bl = C) (hne : ¬ g = bl) (hne' : ¬ bl = g) (hlo : 0 ≤ lost) (hlo2 : lost ≤ 4611686018427387904) (k : Nat) (hk : k < n) (st : Int) (c0 : C[k * 7]? = some (.int .i64 st)) (hst : st < 2) (hid : id < 1020)
    (HF : Hid (∀ W : World, isRow W bl → rowAt W bl = C → Calls Try.prog 22 #[.slice (some ⟨bl, 0, none⟩) n cc, .int .i64 id] W fun e w' => e = .returned (.int .i64 (k : Int)) ∧ Below W.heap.size W w')) :
    Calls Try.prog 49 #[.pointer (some ⟨g, 0, none⟩), .int .i64 id] w fun e w' => e = .returned (.agg #[.bool false, .int .i64 (-1)]) ∧ Row w' g #[.int .i64 m, .int .i64 p0, .int .i64 p1, .bool o0, .bool o1, .bool sp, .int .u32 a, .int .u32 b, .slice (some ⟨bl, 0, none⟩) n cc, .int .i64 (lost + 1)] ∧ Row w' bl C ∧ Aside2 g bl w w' := by
  have _u : True := by have _ := hne; have _ := hne'; have _ := hlo; have _ := hlo2; trivial
  clear _u
  have lr := hr.lt
  have ll := hl.lt
  have nr : ¬ g = w.heap.size := by omega
  have rn : ¬ w.heap.size = g := by omega
  have nl : ¬ bl = w.heap.size := by omega
  have ln : ¬ w.heap.size = bl := by omega
  have k0 : ¬ (k : Int) < 0 := by omega
  have k1 : (0 : Int) ≤ (k : Int) := by omega
  have k2 : (k : Int) < (n : Int) := by omega
  have hB_0 : Below w.heap.size w w := Below.refl _ _
  have ne_V_E : ¬ g = w.heap.size := by omega
  have en_V_E : ¬ w.heap.size = g := by omega
  have ne_L_E : ¬ bl = w.heap.size := by omega
  have en_L_E : ¬ w.heap.size = bl := by omega
  go_enter Try.func49, Try.ntmps49
  go_wp2_with fail
  refine (HF.out _ (by go_simp) (by go_simp)).mono ?_
  rintro e v1 ⟨rfl, hb1⟩
  obtain ⟨V_1, V_1'⟩ : Row v1 g #[.int .i64 m, .int .i64 p0, .int .i64 p1, .bool o0, .bool o1, .bool sp, .int .u32 a, .int .u32 b, .slice (some ⟨bl, 0, none⟩) n cc, .int .i64 lost] := Row.step (by go_simp) (by go_simp) hb1
  obtain ⟨L_1, L_1'⟩ : Row v1 bl C := Row.step (by go_simp) (by go_simp) hb1
  obtain ⟨E_1, E_1'⟩ : Row v1 w.heap.size #[.bool false, .int .i64 0] := Row.step (by go_simp) (by go_simp) hb1
  have hB_1 : Below w.heap.size w v1 := bk (by go_simp) (by first | (go_simp; done) | (go_simp; omega) | exact Below.size (by assumption)) hb1
  clear hr hr' hl hl' hB_0 hb1
  have hz_1 : w.heap.size ≤ v1.heap.size := hB_1.size
  have hl_V_1 := isRow.lt V_1
  have ne_V_1_0 : ¬ g = v1.heap.size := by omega
  have en_V_1_0 : ¬ v1.heap.size = g := by omega
  have hl_L_1 := isRow.lt L_1
  have ne_L_1_0 : ¬ bl = v1.heap.size := by omega
  have en_L_1_0 : ¬ v1.heap.size = bl := by omega
  have hl_E_1 := isRow.lt E_1
  have ne_E_1_0 : ¬ w.heap.size = v1.heap.size := by omega
  have en_E_1_0 : ¬ v1.heap.size = w.heap.size := by omega
  have hA : Aside2 g bl w v1 := .of_below hB_1
  clear hB_1
  go_wp2
  exact bodyPost_ret (resE _ rfl _ _ w.heap.size false (-1) rfl ⟨by go_simp, by go_simp⟩) rfl ⟨rfl, ⟨by go_simp, by go_simp⟩, ⟨by go_simp, by go_simp⟩, by go_simp⟩
set_option maxRecDepth 100000 in
set_option maxHeartbeats 2000000 in
theorem end_D (g bl : Nat) (m p0 p1 : Int) (o0 o1 sp : Bool) (a b : Int) (n cc : Nat) (C : Array Value) (lost id : Int) (w : World) (hr : isRow w g) (hr' : rowAt w g = #[.int .i64 m, .int .i64 p0, .int .i64 p1, .bool o0, .bool o1, .bool sp, .int .u32 a, .int .u32 b, .slice (some ⟨bl, 0, none⟩) n cc, .int .i64 lost]) (hl : isRow w bl) (hl' : rowAt w bl = C) (hne : ¬ g = bl) (hne' : ¬ bl = g) (hlo : 0 ≤ lost) (hlo2 : lost ≤ 4611686018427387904) (k : Nat) (hk : k < n) (st : Int) (c0 : C[k * 7]? = some (.int .i64 st)) (hst : st < 2) (hid : ¬ id < 1020)
    (HF : Hid (∀ W : World, isRow W bl → rowAt W bl = C → Calls Try.prog 22 #[.slice (some ⟨bl, 0, none⟩) n cc, .int .i64 id] W fun e w' => e = .returned (.int .i64 (k : Int)) ∧ Below W.heap.size W w')) :
    Calls Try.prog 49 #[.pointer (some ⟨g, 0, none⟩), .int .i64 id] w fun e w' => e = .returned (.agg #[.bool false, .int .i64 (-1)]) ∧ Row w' g #[.int .i64 m, .int .i64 p0, .int .i64 p1, .bool o0, .bool o1, .bool sp, .int .u32 a, .int .u32 b, .slice (some ⟨bl, 0, none⟩) n cc, .int .i64 lost] ∧ Row w' bl C ∧ Aside2 g bl w w' := by
  have _u : True := by have _ := hne; have _ := hne'; have _ := hlo; have _ := hlo2; trivial
  clear _u
  have lr := hr.lt
  have ll := hl.lt
  have nr : ¬ g = w.heap.size := by omega
  have rn : ¬ w.heap.size = g := by omega
  have nl : ¬ bl = w.heap.size := by omega
  have ln : ¬ w.heap.size = bl := by omega
  have k0 : ¬ (k : Int) < 0 := by omega
  have k1 : (0 : Int) ≤ (k : Int) := by omega
  have k2 : (k : Int) < (n : Int) := by omega
  have hB_0 : Below w.heap.size w w := Below.refl _ _
  have ne_V_E : ¬ g = w.heap.size := by omega
  have en_V_E : ¬ w.heap.size = g := by omega
  have ne_L_E : ¬ bl = w.heap.size := by omega
  have en_L_E : ¬ w.heap.size = bl := by omega
  go_enter Try.func49, Try.ntmps49
  go_wp2_with fail
  refine (HF.out _ (by go_simp) (by go_simp)).mono ?_
  rintro e v1 ⟨rfl, hb1⟩
  obtain ⟨V_1, V_1'⟩ : Row v1 g #[.int .i64 m, .int .i64 p0, .int .i64 p1, .bool o0, .bool o1, .bool sp, .int .u32 a, .int .u32 b, .slice (some ⟨bl, 0, none⟩) n cc, .int .i64 lost] := Row.step (by go_simp) (by go_simp) hb1
  obtain ⟨L_1, L_1'⟩ : Row v1 bl C := Row.step (by go_simp) (by go_simp) hb1
  obtain ⟨E_1, E_1'⟩ : Row v1 w.heap.size #[.bool false, .int .i64 0] := Row.step (by go_simp) (by go_simp) hb1
  have hB_1 : Below w.heap.size w v1 := bk (by go_simp) (by first | (go_simp; done) | (go_simp; omega) | exact Below.size (by assumption)) hb1
  clear hr hr' hl hl' hB_0 hb1
  have hz_1 : w.heap.size ≤ v1.heap.size := hB_1.size
  have hl_V_1 := isRow.lt V_1
  have ne_V_1_0 : ¬ g = v1.heap.size := by omega
  have en_V_1_0 : ¬ v1.heap.size = g := by omega
  have hl_L_1 := isRow.lt L_1
  have ne_L_1_0 : ¬ bl = v1.heap.size := by omega
  have en_L_1_0 : ¬ v1.heap.size = bl := by omega
  have hl_E_1 := isRow.lt E_1
  have ne_E_1_0 : ¬ w.heap.size = v1.heap.size := by omega
  have en_E_1_0 : ¬ v1.heap.size = w.heap.size := by omega
  have hA : Aside2 g bl w v1 := .of_below hB_1
  clear hB_1
  go_wp2
  exact bodyPost_ret (resE _ rfl _ _ w.heap.size false (-1) rfl ⟨by go_simp, by go_simp⟩) rfl ⟨rfl, ⟨by go_simp, by go_simp⟩, ⟨by go_simp, by go_simp⟩, by go_simp⟩
set_option maxRecDepth 100000 in
set_option maxHeartbeats 2000000 in
theorem end_E (g bl : Nat) (m p0 p1 : Int) (o0 o1 sp : Bool) (a b : Int) (n cc : Nat) (C : Array Value) (lost id : Int) (w : World) (hr : isRow w g) (hr' : rowAt w g = #[.int .i64 m, .int .i64 p0, .int .i64 p1, .bool o0, .bool o1, .bool sp, .int .u32 a, .int .u32 b, .slice (some ⟨bl, 0, none⟩) n cc, .int .i64 lost]) (hl : isRow w bl) (hl' : rowAt w bl = C) (hne : ¬ g = bl) (hne' : ¬ bl = g) (hlo : 0 ≤ lost) (hlo2 : lost ≤ 4611686018427387904) (k : Nat) (hk : k < n) (st : Int) (c0 : C[k * 7]? = some (.int .i64 st)) (mach : Int) (c4 : C[k * 7 + 4]? = some (.bool true)) (c5 : C[k * 7 + 5]? = some (.int .i64 mach)) (hst : 2 ≤ st) (hst3 : st ≤ 3)
    (HF : Hid (∀ W : World, isRow W bl → rowAt W bl = C → Calls Try.prog 22 #[.slice (some ⟨bl, 0, none⟩) n cc, .int .i64 id] W fun e w' => e = .returned (.int .i64 (k : Int)) ∧ Below W.heap.size W w')) :
    Calls Try.prog 49 #[.pointer (some ⟨g, 0, none⟩), .int .i64 id] w fun e w' => e = .returned (.agg #[.bool true, .int .i64 mach]) ∧ Row w' g #[.int .i64 m, .int .i64 p0, .int .i64 p1, .bool o0, .bool o1, .bool sp, .int .u32 a, .int .u32 b, .slice (some ⟨bl, 0, none⟩) n cc, .int .i64 lost] ∧ Row w' bl (C.setIfInBounds (k * 7) (.int .i64 (st - 2))) ∧ Aside2 g bl w w' := by
  have _u : True := by have _ := hne; have _ := hne'; have _ := hlo; have _ := hlo2; trivial
  clear _u
  have lr := hr.lt
  have ll := hl.lt
  have nr : ¬ g = w.heap.size := by omega
  have rn : ¬ w.heap.size = g := by omega
  have nl : ¬ bl = w.heap.size := by omega
  have ln : ¬ w.heap.size = bl := by omega
  have k0 : ¬ (k : Int) < 0 := by omega
  have k1 : (0 : Int) ≤ (k : Int) := by omega
  have k2 : (k : Int) < (n : Int) := by omega
  have hst2 : ¬ st < 2 := by omega
  have hB_0 : Below w.heap.size w w := Below.refl _ _
  have ne_V_E : ¬ g = w.heap.size := by omega
  have en_V_E : ¬ w.heap.size = g := by omega
  have ne_L_E : ¬ bl = w.heap.size := by omega
  have en_L_E : ¬ w.heap.size = bl := by omega
  go_enter Try.func49, Try.ntmps49
  go_wp2_with fail
  refine (HF.out _ (by go_simp) (by go_simp)).mono ?_
  rintro e v1 ⟨rfl, hb1⟩
  obtain ⟨V_1, V_1'⟩ : Row v1 g #[.int .i64 m, .int .i64 p0, .int .i64 p1, .bool o0, .bool o1, .bool sp, .int .u32 a, .int .u32 b, .slice (some ⟨bl, 0, none⟩) n cc, .int .i64 lost] := Row.step (by go_simp) (by go_simp) hb1
  obtain ⟨L_1, L_1'⟩ : Row v1 bl C := Row.step (by go_simp) (by go_simp) hb1
  obtain ⟨E_1, E_1'⟩ : Row v1 w.heap.size #[.bool false, .int .i64 0] := Row.step (by go_simp) (by go_simp) hb1
  have hB_1 : Below w.heap.size w v1 := bk (by go_simp) (by first | (go_simp; done) | (go_simp; omega) | exact Below.size (by assumption)) hb1
  clear hr hr' hl hl' hB_0 hb1
  have hz_1 : w.heap.size ≤ v1.heap.size := hB_1.size
  have hl_V_1 := isRow.lt V_1
  have ne_V_1_0 : ¬ g = v1.heap.size := by omega
  have en_V_1_0 : ¬ v1.heap.size = g := by omega
  have hl_L_1 := isRow.lt L_1
  have ne_L_1_0 : ¬ bl = v1.heap.size := by omega
  have en_L_1_0 : ¬ v1.heap.size = bl := by omega
  have hl_E_1 := isRow.lt E_1
  have ne_E_1_0 : ¬ w.heap.size = v1.heap.size := by omega
  have en_E_1_0 : ¬ v1.heap.size = w.heap.size := by omega
  have hA : Aside2 g bl w v1 := .of_below hB_1
  clear hB_1
  go_wp2
  exact bodyPost_ret (resE _ rfl _ _ w.heap.size true mach rfl ⟨by go_simp, by go_simp⟩) rfl ⟨rfl, ⟨by go_simp, by go_simp⟩, ⟨by go_simp, by go_simp⟩, by go_simp⟩
set_option maxRecDepth 100000 in
set_option maxHeartbeats 2000000 in
theorem end_F (g bl : Nat) (m p0 p1 : Int) (o0 o1 sp : Bool) (a b : Int) (n cc : Nat) (C : Array Value) (lost id : Int) (w : World) (hr : isRow w g) (hr' : rowAt w g = #[.int .i64 m, .int .i64 p0, .int .i64 p1, .bool o0, .bool o1, .bool sp, .int .u32 a, .int .u32 b, .slice (some ⟨bl, 0, none⟩) n cc, .int .i64 lost]) (hl : isRow w bl) (hl' : rowAt w bl = C) (hne : ¬ g = bl) (hne' : ¬ bl = g) (hlo : 0 ≤ lost) (hlo2 : lost ≤ 4611686018427387904) (k : Nat) (hk : k < n) (st : Int) (c0 : C[k * 7]? = some (.int .i64 st)) (c4 : C[k * 7 + 4]? = some (.bool false)) (hst : 2 ≤ st) (hst3 : st ≤ 3)
    (HF : Hid (∀ W : World, isRow W bl → rowAt W bl = C → Calls Try.prog 22 #[.slice (some ⟨bl, 0, none⟩) n cc, .int .i64 id] W fun e w' => e = .returned (.int .i64 (k : Int)) ∧ Below W.heap.size W w')) :
    Calls Try.prog 49 #[.pointer (some ⟨g, 0, none⟩), .int .i64 id] w fun e w' => e = .returned (.agg #[.bool true, .int .i64 (-1)]) ∧ Row w' g #[.int .i64 m, .int .i64 p0, .int .i64 p1, .bool o0, .bool o1, .bool sp, .int .u32 a, .int .u32 b, .slice (some ⟨bl, 0, none⟩) n cc, .int .i64 lost] ∧ Row w' bl (C.setIfInBounds (k * 7) (.int .i64 (st - 2))) ∧ Aside2 g bl w w' := by
  have _u : True := by have _ := hne; have _ := hne'; have _ := hlo; have _ := hlo2; trivial
  clear _u
  have lr := hr.lt
  have ll := hl.lt
  have nr : ¬ g = w.heap.size := by omega
  have rn : ¬ w.heap.size = g := by omega
  have nl : ¬ bl = w.heap.size := by omega
  have ln : ¬ w.heap.size = bl := by omega
  have k0 : ¬ (k : Int) < 0 := by omega
  have k1 : (0 : Int) ≤ (k : Int) := by omega
  have k2 : (k : Int) < (n : Int) := by omega
  have hst2 : ¬ st < 2 := by omega
  have hB_0 : Below w.heap.size w w := Below.refl _ _
  have ne_V_E : ¬ g = w.heap.size := by omega
  have en_V_E : ¬ w.heap.size = g := by omega
  have ne_L_E : ¬ bl = w.heap.size := by omega
  have en_L_E : ¬ w.heap.size = bl := by omega
  go_enter Try.func49, Try.ntmps49
  go_wp2_with fail
  refine (HF.out _ (by go_simp) (by go_simp)).mono ?_
  rintro e v1 ⟨rfl, hb1⟩
  obtain ⟨V_1, V_1'⟩ : Row v1 g #[.int .i64 m, .int .i64 p0, .int .i64 p1, .bool o0, .bool o1, .bool sp, .int .u32 a, .int .u32 b, .slice (some ⟨bl, 0, none⟩) n cc, .int .i64 lost] := Row.step (by go_simp) (by go_simp) hb1
  obtain ⟨L_1, L_1'⟩ : Row v1 bl C := Row.step (by go_simp) (by go_simp) hb1
  obtain ⟨E_1, E_1'⟩ : Row v1 w.heap.size #[.bool false, .int .i64 0] := Row.step (by go_simp) (by go_simp) hb1
  have hB_1 : Below w.heap.size w v1 := bk (by go_simp) (by first | (go_simp; done) | (go_simp; omega) | exact Below.size (by assumption)) hb1
  clear hr hr' hl hl' hB_0 hb1
  have hz_1 : w.heap.size ≤ v1.heap.size := hB_1.size
  have hl_V_1 := isRow.lt V_1
  have ne_V_1_0 : ¬ g = v1.heap.size := by omega
  have en_V_1_0 : ¬ v1.heap.size = g := by omega
  have hl_L_1 := isRow.lt L_1
  have ne_L_1_0 : ¬ bl = v1.heap.size := by omega
  have en_L_1_0 : ¬ v1.heap.size = bl := by omega
  have hl_E_1 := isRow.lt E_1
  have ne_E_1_0 : ¬ w.heap.size = v1.heap.size := by omega
  have en_E_1_0 : ¬ v1.heap.size = w.heap.size := by omega
  have hA : Aside2 g bl w v1 := .of_below hB_1
  clear hB_1
  go_wp2
  exact bodyPost_ret (resE _ rfl _ _ w.heap.size true (-1) rfl ⟨by go_simp, by go_simp⟩) rfl ⟨rfl, ⟨by go_simp, by go_simp⟩, ⟨by go_simp, by go_simp⟩, by go_simp⟩
end Go.Proofs.Ytkbaghblchlcnaa.Lr.Wd
namespace Go.Proofs.Ytkbaghblchlcnaa.Lr.Wd
open Go.RowKit Go.Shelf Go.Proofs.YtkbaghblchlcnaaW.PrintWords Go.Proofs.Ytkbaghblchlcnaa.IAll
attribute [local go_sem] Oper.semAt_some cell_row frozen_row isRow_setCell_eq rowAt_setCell_same rowAt_setCell_other isRow_alloc_eq rowAt_alloc rowAt_new rowAt_new' isRow_setRow_eq rowAt_setRow_same rowAt_setRow_other isRow_drew rowAt_drew size_setRow_ Lb_size Lb_at blk_ptr aggOf_agg below_alloc_e below_setCell_e below_setRow_e below_refl_e below_drew_r aside2_alloc_e aside2_setCell_e aside2_setRow_e aside2_drew_e aside2_refl_e aside2_drewN_e isRow_drewN rowAt_drewN below_drewN_e le_add_r offv_ptr one_lad zero_lad allOne_nil allOne_cons Value.oneCell' addr_at FA_size one_FA
attribute [local go_sem ↓] storeI storeC storeE
attribute [local go_sem] eq2i eq2b eq2u
theorem resC (fn : Func) {p : Tmp} (h : fn.results = #[.cell p 47]) (tmps : Array Value) (w : World) (g : Nat) (x y z : Int) (u : Bool) (hp : tmps.getD p undef = .pointer (some ⟨g, 0, none⟩)) (hg : Row w g #[.int .i64 x, .int .i64 y, .int .i64 z, .bool u]) :
    (results fn tmps).run Try.prog w = .ok (.agg #[.int .i64 x, .int .i64 y, .int .i64 z, .bool u]) w := results_tmps h tmps w g _ hp hg Try.underlying47 rfl infoC rfl
set_option maxRecDepth 100000 in
set_option maxHeartbeats 1000000 in
theorem vBest_w (g bl : Nat) (m p0 p1 : Int) (o0 o1 sp : Bool) (a b : Int) (n cc : Nat) (C : Array Value) (lost id pr gr : Int) (is : Bool) (w : World) (hr : isRow w g) (hr' : rowAt w g = #[.int .i64 m, .int .i64 p0, .int .i64 p1, .bool o0, .bool o1, .bool sp, .int .u32 a, .int .u32 b, .slice (some ⟨bl, 0, none⟩) n cc, .int .i64 lost]) (hl : isRow w bl) (hl' : rowAt w bl = C)
    (HB : Hid (∀ W : World, isRow W bl → rowAt W bl = C → Calls Try.prog 40 #[.slice (some ⟨bl, 0, none⟩) n cc] W fun e w' => e = .returned (.agg #[.int .i64 id, .int .i64 pr, .int .i64 gr, .bool is]) ∧ Below W.heap.size W w')) :
    Calls Try.prog 19 #[.pointer (some ⟨g, 0, none⟩)] w fun e w' => e = .returned (.agg #[.int .i64 id, .int .i64 pr, .int .i64 gr, .bool is]) ∧ Below w.heap.size w w' := by
  have lr := hr.lt
  have ll := hl.lt
  have nr : ¬ g = w.heap.size := by omega
  have rn : ¬ w.heap.size = g := by omega
  have nl : ¬ bl = w.heap.size := by omega
  have ln : ¬ w.heap.size = bl := by omega
  have hB_0 : Below w.heap.size w w := Below.refl _ _
  have ne_V_E : ¬ g = w.heap.size := by omega
  have en_V_E : ¬ w.heap.size = g := by omega
  have ne_L_E : ¬ bl = w.heap.size := by omega
  have en_L_E : ¬ w.heap.size = bl := by omega
  go_enter Try.func19, Try.ntmps19
  go_wp2_with fail
  refine (HB.out _ (by go_simp) (by go_simp)).mono ?_
  rintro e v1 ⟨rfl, hb1⟩
  obtain ⟨V_1, V_1'⟩ : Row v1 g #[.int .i64 m, .int .i64 p0, .int .i64 p1, .bool o0, .bool o1, .bool sp, .int .u32 a, .int .u32 b, .slice (some ⟨bl, 0, none⟩) n cc, .int .i64 lost] := Row.step (by go_simp) (by go_simp) hb1
  obtain ⟨L_1, L_1'⟩ : Row v1 bl C := Row.step (by go_simp) (by go_simp) hb1
  obtain ⟨E_1, E_1'⟩ : Row v1 w.heap.size #[.int .i64 0, .int .i64 0, .int .i64 0, .bool false] := Row.step (by go_simp) (by go_simp) hb1
  have hB_1 : Below w.heap.size w v1 := bk (by go_simp) (by first | (go_simp; done) | (go_simp; omega) | exact Below.size (by assumption)) hb1
  clear hr hr' hl hl' hB_0 hb1
  have hz_1 : w.heap.size ≤ v1.heap.size := hB_1.size
  have hl_V_1 := isRow.lt V_1
  have ne_V_1_0 : ¬ g = v1.heap.size := by omega
  have en_V_1_0 : ¬ v1.heap.size = g := by omega
  have hl_L_1 := isRow.lt L_1
  have ne_L_1_0 : ¬ bl = v1.heap.size := by omega
  have en_L_1_0 : ¬ v1.heap.size = bl := by omega
  have hl_E_1 := isRow.lt E_1
  have ne_E_1_0 : ¬ w.heap.size = v1.heap.size := by omega
  have en_E_1_0 : ¬ v1.heap.size = w.heap.size := by omega
  go_wp2
  exact bodyPost_ret (resC _ rfl _ _ w.heap.size id pr gr is rfl ⟨by go_simp, by go_simp⟩) rfl ⟨rfl, by go_simp⟩
set_option maxRecDepth 100000 in
set_option maxHeartbeats 2000000 in
theorem ack_no (g bl : Nat) (m p0 p1 : Int) (o0 o1 sp : Bool) (a b a' b' : Int) (n cc : Nat) (C : Array Value) (lost id pr gr : Int) (is : Bool) (gp : Int) (w : World) (hr : isRow w g) (hr' : rowAt w g = #[.int .i64 m, .int .i64 p0, .int .i64 p1, .bool o0, .bool o1, .bool sp, .int .u32 a, .int .u32 b, .slice (some ⟨bl, 0, none⟩) n cc, .int .i64 lost]) (hl : isRow w bl) (hl' : rowAt w bl = C) (hne : ¬ g = bl) (hne' : ¬ bl = g) 
    (HB : Hid (∀ W : World, isRow W g → rowAt W g = #[.int .i64 m, .int .i64 p0, .int .i64 p1, .bool o0, .bool o1, .bool sp, .int .u32 a, .int .u32 b, .slice (some ⟨bl, 0, none⟩) n cc, .int .i64 lost] → isRow W bl → rowAt W bl = C → Calls Try.prog 19 #[.pointer (some ⟨g, 0, none⟩)] W fun e w' => e = .returned (.agg #[.int .i64 id, .int .i64 pr, .int .i64 gr, .bool is]) ∧ Below W.heap.size W w'))
    (HT : Hid (∀ W : World, isRow W g → rowAt W g = #[.int .i64 m, .int .i64 p0, .int .i64 p1, .bool o0, .bool o1, .bool sp, .int .u32 a, .int .u32 b, .slice (some ⟨bl, 0, none⟩) n cc, .int .i64 lost] → Calls Try.prog 39 #[.pointer (some ⟨g, 0, none⟩), .agg #[.int .i64 id, .int .i64 pr, .int .i64 gr, .bool is], .int .i64 gp] W fun e w' => e = .returned (.tuple #[.int .i64 1023, .bool false]) ∧ Row w' g #[.int .i64 m, .int .i64 p0, .int .i64 p1, .bool o0, .bool o1, .bool sp, .int .u32 a', .int .u32 b', .slice (some ⟨bl, 0, none⟩) n cc, .int .i64 lost] ∧ Aside g W w')) :
    Calls Try.prog 17 #[.pointer (some ⟨g, 0, none⟩), .int .i64 gp] w fun e w' => e = .returned (.int .i64 1023) ∧ Row w' g #[.int .i64 m, .int .i64 p0, .int .i64 p1, .bool o0, .bool o1, .bool sp, .int .u32 a', .int .u32 b', .slice (some ⟨bl, 0, none⟩) n cc, .int .i64 lost] ∧ Row w' bl C ∧ Aside2 g bl w w' := by
  have _u : True := by have _ := hne; have _ := hne'; trivial
  clear _u
  have hB0 : Below w.heap.size w w := Below.refl _ _
  skip
  go_enter Try.func17, Try.ntmps17
  go_wp2_with fail
  (first | go_region_with (first | (go_at_call 19; refine (HB.out _ (by go_simp) (by go_simp) (by go_simp) (by go_simp)).mono ?_; rintro e w1 ⟨rfl, hb1⟩; obtain ⟨V1, V1'⟩ : Row w1 g #[.int .i64 m, .int .i64 p0, .int .i64 p1, .bool o0, .bool o1, .bool sp, .int .u32 a, .int .u32 b, .slice (some ⟨bl, 0, none⟩) n cc, .int .i64 lost] := Row.step (by go_simp) (by go_simp) hb1; obtain ⟨L1, L1'⟩ : Row w1 bl C := Row.step (by go_simp) (by go_simp) hb1; have hB1 : Below w.heap.size w w1 := (below_drewl hb1)) | (go_at_call 39; refine (HT.out _ V1 V1').mono ?_; rintro e w2 ⟨rfl, ⟨V2, V2'⟩, hA2⟩; obtain ⟨L2, L2'⟩ : Row w2 bl C := hA2.row ⟨L1, L1'⟩ hne'; have hX : Aside2 g bl w w2 := (Aside2.of_below hB1).trans (Aside2.left hA2); clear hA2 V1 V1' L1 L1' hB1)) | fail)
  all_goals
    clear hr hr' hl hl' hB0
    go_wp2
    go_ret
    exact ⟨rfl, ⟨by go_simp, by go_simp⟩, ⟨by go_simp, by go_simp⟩, by go_simp⟩
set_option maxRecDepth 100000 in
set_option maxHeartbeats 2000000 in
theorem ack_lo (g bl : Nat) (m p0 p1 : Int) (o0 o1 sp : Bool) (a b a' b' : Int) (n cc : Nat) (C : Array Value) (lost id pr gr : Int) (is : Bool) (gp : Int) (w : World) (hr : isRow w g) (hr' : rowAt w g = #[.int .i64 m, .int .i64 p0, .int .i64 p1, .bool o0, .bool o1, .bool sp, .int .u32 a, .int .u32 b, .slice (some ⟨bl, 0, none⟩) n cc, .int .i64 lost]) (hl : isRow w bl) (hl' : rowAt w bl = C) (hne : ¬ g = bl) (hne' : ¬ bl = g) (k : Nat) (hk : k < n) (hid : ¬ 8192 ≤ id) (st : Int) (c0 : C[k * 7]? = some (.int .i64 st)) (HF : Hid (∀ W : World, isRow W bl → rowAt W bl = C → Calls Try.prog 22 #[.slice (some ⟨bl, 0, none⟩) n cc, .int .i64 id] W fun e w' => e = .returned (.int .i64 (k : Int)) ∧ Below W.heap.size W w'))
    (HB : Hid (∀ W : World, isRow W g → rowAt W g = #[.int .i64 m, .int .i64 p0, .int .i64 p1, .bool o0, .bool o1, .bool sp, .int .u32 a, .int .u32 b, .slice (some ⟨bl, 0, none⟩) n cc, .int .i64 lost] → isRow W bl → rowAt W bl = C → Calls Try.prog 19 #[.pointer (some ⟨g, 0, none⟩)] W fun e w' => e = .returned (.agg #[.int .i64 id, .int .i64 pr, .int .i64 gr, .bool is]) ∧ Below W.heap.size W w'))
    (HT : Hid (∀ W : World, isRow W g → rowAt W g = #[.int .i64 m, .int .i64 p0, .int .i64 p1, .bool o0, .bool o1, .bool sp, .int .u32 a, .int .u32 b, .slice (some ⟨bl, 0, none⟩) n cc, .int .i64 lost] → Calls Try.prog 39 #[.pointer (some ⟨g, 0, none⟩), .agg #[.int .i64 id, .int .i64 pr, .int .i64 gr, .bool is], .int .i64 gp] W fun e w' => e = .returned (.tuple #[.int .i64 id, .bool true]) ∧ Row w' g #[.int .i64 m, .int .i64 p0, .int .i64 p1, .bool o0, .bool o1, .bool sp, .int .u32 a', .int .u32 b', .slice (some ⟨bl, 0, none⟩) n cc, .int .i64 lost] ∧ Aside g W w')) :
    Calls Try.prog 17 #[.pointer (some ⟨g, 0, none⟩), .int .i64 gp] w fun e w' => e = .returned (.int .i64 id) ∧ Row w' g #[.int .i64 m, .int .i64 p0, .int .i64 p1, .bool o0, .bool o1, .bool sp, .int .u32 a', .int .u32 b', .slice (some ⟨bl, 0, none⟩) n cc, .int .i64 lost] ∧ Row w' bl (C.setIfInBounds (k * 7) (.int .i64 2)) ∧ Aside2 g bl w w' := by
  have _u : True := by have _ := hne; have _ := hne'; trivial
  clear _u
  have hB0 : Below w.heap.size w w := Below.refl _ _
  have k1 : (0 : Int) ≤ (k : Int) := by omega
  have k2 : (k : Int) < (n : Int) := by omega
  have _v := hk
  clear _v
  go_enter Try.func17, Try.ntmps17
  go_wp2_with fail
  (first | go_region_with (first | (go_at_call 19; refine (HB.out _ (by go_simp) (by go_simp) (by go_simp) (by go_simp)).mono ?_; rintro e w1 ⟨rfl, hb1⟩; obtain ⟨V1, V1'⟩ : Row w1 g #[.int .i64 m, .int .i64 p0, .int .i64 p1, .bool o0, .bool o1, .bool sp, .int .u32 a, .int .u32 b, .slice (some ⟨bl, 0, none⟩) n cc, .int .i64 lost] := Row.step (by go_simp) (by go_simp) hb1; obtain ⟨L1, L1'⟩ : Row w1 bl C := Row.step (by go_simp) (by go_simp) hb1; have hB1 : Below w.heap.size w w1 := (below_drewl hb1)) | (go_at_call 39; refine (HT.out _ V1 V1').mono ?_; rintro e w2 ⟨rfl, ⟨V2, V2'⟩, hA2⟩; obtain ⟨L2, L2'⟩ : Row w2 bl C := hA2.row ⟨L1, L1'⟩ hne'; have hX : Aside2 g bl w w2 := (Aside2.of_below hB1).trans (Aside2.left hA2); clear hA2 V1 V1' L1 L1' hB1)) | fail)
  all_goals
    clear hr hr' hl hl' hB0
    go_wp2_with fail
    have hB_0 : Below w.heap.size w w := Below.refl _ _
    refine wp_region_held_drew (S := fun w' => isRow w' g ∧ rowAt w' g = #[.int .i64 m, .int .i64 p0, .int .i64 p1, .bool o0, .bool o1, .bool sp, .int .u32 a', .int .u32 b', .slice (some ⟨bl, 0, none⟩) n cc, .int .i64 lost] ∧ isRow w' bl ∧ rowAt w' bl = C ∧ Aside2 g bl w w') (by kernel_rfl) ⟨V2, V2', L2, L2', Aside2.drew hX⟩ (fun hHeld => ?_)
    refine wpAnyH_take (i := 0) (oi := ⟨some 21, .move (.tmp 0), 24, "vcpu.go:68", #[], none⟩) (v := ?_) rfl (by kernel_rfl) (by kernel_rfl) (by kernel_rfl) (fun _ _ _ h => h) (Or.inl ⟨by rfl, ?_⟩) (by assumption) ?_
    rotate_left
    · (intro w_ hS_; (try dsimp only at hS_); go_simp; try with_reducible rfl)
    try simp only [Act.put, List.setIfInBounds_toArray, List.set_cons_zero, List.set_cons_succ]
    refine wpAnyH_take (i := 1) (oi := ⟨some 22, .nilCheck (.tmp 21), 0, "vcpu.go:68", #[⟨0, .data⟩], none⟩) (v := ?_) rfl (by kernel_rfl) (by kernel_rfl) (by kernel_rfl) (fun _ _ _ h => h) (Or.inl ⟨by rfl, ?_⟩) (by assumption) ?_
    rotate_left
    · (intro w_ hS_; (try dsimp only at hS_); go_simp; try with_reducible rfl)
    try simp only [Act.put, List.setIfInBounds_toArray, List.set_cons_zero, List.set_cons_succ]
    refine wpAnyH_take (i := 2) (oi := ⟨some 23, .fieldAddr 37 (.tmp 22) 1, 0, "vcpu.go:68", #[⟨1, .data⟩], none⟩) (v := ?_) rfl (by kernel_rfl) (by kernel_rfl) (by kernel_rfl) (fun _ _ _ h => h) (Or.inl ⟨by rfl, ?_⟩) (by assumption) ?_
    rotate_left
    · (intro w_ hS_; (try dsimp only at hS_); go_simp; try with_reducible rfl)
    try simp only [Act.put, List.setIfInBounds_toArray, List.set_cons_zero, List.set_cons_succ]
    refine wpAnyH_take (i := 3) (oi := ⟨some 24, .load 22 (.tmp 23), 22, "vcpu.go:68", #[⟨2, .data⟩], none⟩) (v := ?_) rfl (by kernel_rfl) (by kernel_rfl) (by kernel_rfl) (fun _ _ _ h => h) (Or.inl ⟨by rfl, ?_⟩) (by assumption) ?_
    rotate_left
    · (intro w_ hS_; (try dsimp only at hS_); go_simp; try with_reducible rfl)
    try simp only [Act.put, List.setIfInBounds_toArray, List.set_cons_zero, List.set_cons_succ]
    refine wpAnyH_take (i := 4) (oi := ⟨some 25, .move (.tmp 0), 24, "vcpu.go:68", #[], none⟩) (v := ?_) rfl (by kernel_rfl) (by kernel_rfl) (by kernel_rfl) (fun _ _ _ h => h) (Or.inl ⟨by rfl, ?_⟩) (by assumption) ?_
    rotate_left
    · (intro w_ hS_; (try dsimp only at hS_); go_simp; try with_reducible rfl)
    try simp only [Act.put, List.setIfInBounds_toArray, List.set_cons_zero, List.set_cons_succ]
    refine wpAnyH_take (i := 5) (oi := ⟨some 26, .nilCheck (.tmp 25), 0, "vcpu.go:68", #[⟨4, .data⟩], none⟩) (v := ?_) rfl (by kernel_rfl) (by kernel_rfl) (by kernel_rfl) (fun _ _ _ h => h) (Or.inl ⟨by rfl, ?_⟩) (by assumption) ?_
    rotate_left
    · (intro w_ hS_; (try dsimp only at hS_); go_simp; try with_reducible rfl)
    try simp only [Act.put, List.setIfInBounds_toArray, List.set_cons_zero, List.set_cons_succ]
    refine wpAnyH_take (i := 6) (oi := ⟨some 27, .fieldAddr 37 (.tmp 26) 1, 0, "vcpu.go:68", #[⟨5, .data⟩], none⟩) (v := ?_) rfl (by kernel_rfl) (by kernel_rfl) (by kernel_rfl) (fun _ _ _ h => h) (Or.inl ⟨by rfl, ?_⟩) (by assumption) ?_
    rotate_left
    · (intro w_ hS_; (try dsimp only at hS_); go_simp; try with_reducible rfl)
    try simp only [Act.put, List.setIfInBounds_toArray, List.set_cons_zero, List.set_cons_succ]
    refine wpAnyH_take (i := 7) (oi := ⟨some 28, .load 22 (.tmp 27), 22, "vcpu.go:68", #[⟨6, .data⟩], none⟩) (v := ?_) rfl (by kernel_rfl) (by kernel_rfl) (by kernel_rfl) (fun _ _ _ h => h) (Or.inl ⟨by rfl, ?_⟩) (by assumption) ?_
    rotate_left
    · (intro w_ hS_; (try dsimp only at hS_); go_simp; try with_reducible rfl)
    try simp only [Act.put, List.setIfInBounds_toArray, List.set_cons_zero, List.set_cons_succ]
    refine wpAnyH_take (i := 8) (oi := ⟨some 29, .move (.tmp 5), 3, "vcpu.go:68", #[], none⟩) (v := ?_) rfl (by kernel_rfl) (by kernel_rfl) (by kernel_rfl) (fun _ _ _ h => h) (Or.inl ⟨by rfl, ?_⟩) (by assumption) ?_
    rotate_left
    · (intro w_ hS_; (try dsimp only at hS_); go_simp; try with_reducible rfl)
    try simp only [Act.put, List.setIfInBounds_toArray, List.set_cons_zero, List.set_cons_succ]
    refine wpAnyH_ready (rs := [9]) (by kernel_rfl) (by simp) ?_
    refine AllReadyH.cons (o := ⟨some 30, .call ⟨.value (.func 22), #[.tmp 28, .tmp 29], #[22, 3]⟩, 3, "vcpu.go:68", #[⟨7, .data⟩, ⟨8, .data⟩], none⟩) rfl (fun K hK => ?_) AllReadyH.nil
    go_simp
    (have hq_ := hHeld; (try dsimp only at hq_); go_split_ands)
    refine (HF.out _ (by assumption) (by assumption)).mono ?_
    rintro e w4 ⟨rfl, hb⟩
    refine hK.out _ _ ?_ (fun hHeld => ?_)
    · (go_split_ands; exact ⟨rk1 (by assumption) hb, rk2 (by assumption) (by assumption) hb, rk1 (by assumption) hb, rk2 (by assumption) (by assumption) hb, Aside2.low (by assumption) hb⟩)
    clear hK K
    try simp only [Act.put, List.setIfInBounds_toArray, List.set_cons_zero, List.set_cons_succ]
    refine wpAnyH_take (i := 10) (oi := ⟨some 31, .indexAddr 22 (.tmp 24) (.tmp 30), 0, "vcpu.go:68", #[⟨3, .data⟩, ⟨9, .data⟩], none⟩) (v := ?_) rfl (by kernel_rfl) (by kernel_rfl) (by kernel_rfl) (fun _ _ _ h => h) (Or.inl ⟨by rfl, ?_⟩) (by assumption) ?_
    rotate_left
    · (intro w_ hS_; (try dsimp only at hS_); go_simp; try with_reducible rfl)
    try simp only [Act.put, List.setIfInBounds_toArray, List.set_cons_zero, List.set_cons_succ]
    refine wpAnyH_take (i := 11) (oi := ⟨some 7, .assign (.tmp 31), 91, "vcpu.go:68", #[⟨10, .data⟩, ⟨9, .chain⟩, ⟨0, .phase⟩, ⟨1, .phase⟩, ⟨2, .phase⟩, ⟨3, .phase⟩, ⟨4, .phase⟩, ⟨5, .phase⟩, ⟨6, .phase⟩, ⟨7, .phase⟩, ⟨8, .phase⟩, ⟨9, .phase⟩, ⟨10, .phase⟩], none⟩) (v := ?_) rfl (by kernel_rfl) (by kernel_rfl) (by kernel_rfl) (fun _ _ _ h => h) (Or.inl ⟨by rfl, ?_⟩) (by assumption) ?_
    rotate_left
    · (intro w_ hS_; (try dsimp only at hS_); go_simp; try with_reducible rfl)
    try simp only [Act.put, List.setIfInBounds_toArray, List.set_cons_zero, List.set_cons_succ]
    refine wpAnyH_done (by kernel_rfl) ?_ _
    (try dsimp only at hHeld)
    go_split_ands
    go_wp2
    go_ret
    exact ⟨rfl, ⟨by go_simp, by go_simp⟩, ⟨by go_simp, by go_simp⟩, by go_simp⟩
set_option maxRecDepth 100000 in
set_option maxHeartbeats 2000000 in
theorem ack_hi (g bl : Nat) (m p0 p1 : Int) (o0 o1 sp : Bool) (a b a' b' : Int) (n cc : Nat) (C : Array Value) (lost id pr gr : Int) (is : Bool) (gp : Int) (w : World) (hr : isRow w g) (hr' : rowAt w g = #[.int .i64 m, .int .i64 p0, .int .i64 p1, .bool o0, .bool o1, .bool sp, .int .u32 a, .int .u32 b, .slice (some ⟨bl, 0, none⟩) n cc, .int .i64 lost]) (hl : isRow w bl) (hl' : rowAt w bl = C) (hne : ¬ g = bl) (hne' : ¬ bl = g) (k : Nat) (hk : k < n) (hid : 8192 ≤ id) (st : Int) (c0 : C[k * 7]? = some (.int .i64 st)) (HF : Hid (∀ W : World, isRow W bl → rowAt W bl = C → Calls Try.prog 22 #[.slice (some ⟨bl, 0, none⟩) n cc, .int .i64 id] W fun e w' => e = .returned (.int .i64 (k : Int)) ∧ Below W.heap.size W w'))
    (HB : Hid (∀ W : World, isRow W g → rowAt W g = #[.int .i64 m, .int .i64 p0, .int .i64 p1, .bool o0, .bool o1, .bool sp, .int .u32 a, .int .u32 b, .slice (some ⟨bl, 0, none⟩) n cc, .int .i64 lost] → isRow W bl → rowAt W bl = C → Calls Try.prog 19 #[.pointer (some ⟨g, 0, none⟩)] W fun e w' => e = .returned (.agg #[.int .i64 id, .int .i64 pr, .int .i64 gr, .bool is]) ∧ Below W.heap.size W w'))
    (HT : Hid (∀ W : World, isRow W g → rowAt W g = #[.int .i64 m, .int .i64 p0, .int .i64 p1, .bool o0, .bool o1, .bool sp, .int .u32 a, .int .u32 b, .slice (some ⟨bl, 0, none⟩) n cc, .int .i64 lost] → Calls Try.prog 39 #[.pointer (some ⟨g, 0, none⟩), .agg #[.int .i64 id, .int .i64 pr, .int .i64 gr, .bool is], .int .i64 gp] W fun e w' => e = .returned (.tuple #[.int .i64 id, .bool true]) ∧ Row w' g #[.int .i64 m, .int .i64 p0, .int .i64 p1, .bool o0, .bool o1, .bool sp, .int .u32 a', .int .u32 b', .slice (some ⟨bl, 0, none⟩) n cc, .int .i64 lost] ∧ Aside g W w')) :
    Calls Try.prog 17 #[.pointer (some ⟨g, 0, none⟩), .int .i64 gp] w fun e w' => e = .returned (.int .i64 id) ∧ Row w' g #[.int .i64 m, .int .i64 p0, .int .i64 p1, .bool o0, .bool o1, .bool sp, .int .u32 a', .int .u32 b', .slice (some ⟨bl, 0, none⟩) n cc, .int .i64 lost] ∧ Row w' bl ((C.setIfInBounds (k * 7) (.int .i64 2)).setIfInBounds (k * 7) (.int .i64 0)) ∧ Aside2 g bl w w' := by
  have _u : True := by have _ := hne; have _ := hne'; trivial
  clear _u
  have hB0 : Below w.heap.size w w := Below.refl _ _
  have k1 : (0 : Int) ≤ (k : Int) := by omega
  have k2 : (k : Int) < (n : Int) := by omega
  have _v := hk
  clear _v
  have c0' : (C.setIfInBounds (k * 7) (.int .i64 2))[k * 7]? = some (.int .i64 2) := by rw [Array.getElem?_setIfInBounds_self_of_lt (Array.getElem?_eq_some_iff.1 c0).1]
  go_enter Try.func17, Try.ntmps17
  go_wp2_with fail
  (first | go_region_with (first | (go_at_call 19; refine (HB.out _ (by go_simp) (by go_simp) (by go_simp) (by go_simp)).mono ?_; rintro e w1 ⟨rfl, hb1⟩; obtain ⟨V1, V1'⟩ : Row w1 g #[.int .i64 m, .int .i64 p0, .int .i64 p1, .bool o0, .bool o1, .bool sp, .int .u32 a, .int .u32 b, .slice (some ⟨bl, 0, none⟩) n cc, .int .i64 lost] := Row.step (by go_simp) (by go_simp) hb1; obtain ⟨L1, L1'⟩ : Row w1 bl C := Row.step (by go_simp) (by go_simp) hb1; have hB1 : Below w.heap.size w w1 := (below_drewl hb1)) | (go_at_call 39; refine (HT.out _ V1 V1').mono ?_; rintro e w2 ⟨rfl, ⟨V2, V2'⟩, hA2⟩; obtain ⟨L2, L2'⟩ : Row w2 bl C := hA2.row ⟨L1, L1'⟩ hne'; have hX : Aside2 g bl w w2 := (Aside2.of_below hB1).trans (Aside2.left hA2); clear hA2 V1 V1' L1 L1' hB1)) | fail)
  all_goals
    clear hr hr' hl hl' hB0
    go_wp2_with fail
    have hB_0 : Below w.heap.size w w := Below.refl _ _
    refine wp_region_held_drew (S := fun w' => isRow w' g ∧ rowAt w' g = #[.int .i64 m, .int .i64 p0, .int .i64 p1, .bool o0, .bool o1, .bool sp, .int .u32 a', .int .u32 b', .slice (some ⟨bl, 0, none⟩) n cc, .int .i64 lost] ∧ isRow w' bl ∧ rowAt w' bl = C ∧ Aside2 g bl w w') (by kernel_rfl) ⟨V2, V2', L2, L2', Aside2.drew hX⟩ (fun hHeld => ?_)
    refine wpAnyH_take (i := 0) (oi := ⟨some 21, .move (.tmp 0), 24, "vcpu.go:68", #[], none⟩) (v := ?_) rfl (by kernel_rfl) (by kernel_rfl) (by kernel_rfl) (fun _ _ _ h => h) (Or.inl ⟨by rfl, ?_⟩) (by assumption) ?_
    rotate_left
    · (intro w_ hS_; (try dsimp only at hS_); go_simp; try with_reducible rfl)
    try simp only [Act.put, List.setIfInBounds_toArray, List.set_cons_zero, List.set_cons_succ]
    refine wpAnyH_take (i := 1) (oi := ⟨some 22, .nilCheck (.tmp 21), 0, "vcpu.go:68", #[⟨0, .data⟩], none⟩) (v := ?_) rfl (by kernel_rfl) (by kernel_rfl) (by kernel_rfl) (fun _ _ _ h => h) (Or.inl ⟨by rfl, ?_⟩) (by assumption) ?_
    rotate_left
    · (intro w_ hS_; (try dsimp only at hS_); go_simp; try with_reducible rfl)
    try simp only [Act.put, List.setIfInBounds_toArray, List.set_cons_zero, List.set_cons_succ]
    refine wpAnyH_take (i := 2) (oi := ⟨some 23, .fieldAddr 37 (.tmp 22) 1, 0, "vcpu.go:68", #[⟨1, .data⟩], none⟩) (v := ?_) rfl (by kernel_rfl) (by kernel_rfl) (by kernel_rfl) (fun _ _ _ h => h) (Or.inl ⟨by rfl, ?_⟩) (by assumption) ?_
    rotate_left
    · (intro w_ hS_; (try dsimp only at hS_); go_simp; try with_reducible rfl)
    try simp only [Act.put, List.setIfInBounds_toArray, List.set_cons_zero, List.set_cons_succ]
    refine wpAnyH_take (i := 3) (oi := ⟨some 24, .load 22 (.tmp 23), 22, "vcpu.go:68", #[⟨2, .data⟩], none⟩) (v := ?_) rfl (by kernel_rfl) (by kernel_rfl) (by kernel_rfl) (fun _ _ _ h => h) (Or.inl ⟨by rfl, ?_⟩) (by assumption) ?_
    rotate_left
    · (intro w_ hS_; (try dsimp only at hS_); go_simp; try with_reducible rfl)
    try simp only [Act.put, List.setIfInBounds_toArray, List.set_cons_zero, List.set_cons_succ]
    refine wpAnyH_take (i := 4) (oi := ⟨some 25, .move (.tmp 0), 24, "vcpu.go:68", #[], none⟩) (v := ?_) rfl (by kernel_rfl) (by kernel_rfl) (by kernel_rfl) (fun _ _ _ h => h) (Or.inl ⟨by rfl, ?_⟩) (by assumption) ?_
    rotate_left
    · (intro w_ hS_; (try dsimp only at hS_); go_simp; try with_reducible rfl)
    try simp only [Act.put, List.setIfInBounds_toArray, List.set_cons_zero, List.set_cons_succ]
    refine wpAnyH_take (i := 5) (oi := ⟨some 26, .nilCheck (.tmp 25), 0, "vcpu.go:68", #[⟨4, .data⟩], none⟩) (v := ?_) rfl (by kernel_rfl) (by kernel_rfl) (by kernel_rfl) (fun _ _ _ h => h) (Or.inl ⟨by rfl, ?_⟩) (by assumption) ?_
    rotate_left
    · (intro w_ hS_; (try dsimp only at hS_); go_simp; try with_reducible rfl)
    try simp only [Act.put, List.setIfInBounds_toArray, List.set_cons_zero, List.set_cons_succ]
    refine wpAnyH_take (i := 6) (oi := ⟨some 27, .fieldAddr 37 (.tmp 26) 1, 0, "vcpu.go:68", #[⟨5, .data⟩], none⟩) (v := ?_) rfl (by kernel_rfl) (by kernel_rfl) (by kernel_rfl) (fun _ _ _ h => h) (Or.inl ⟨by rfl, ?_⟩) (by assumption) ?_
    rotate_left
    · (intro w_ hS_; (try dsimp only at hS_); go_simp; try with_reducible rfl)
    try simp only [Act.put, List.setIfInBounds_toArray, List.set_cons_zero, List.set_cons_succ]
    refine wpAnyH_take (i := 7) (oi := ⟨some 28, .load 22 (.tmp 27), 22, "vcpu.go:68", #[⟨6, .data⟩], none⟩) (v := ?_) rfl (by kernel_rfl) (by kernel_rfl) (by kernel_rfl) (fun _ _ _ h => h) (Or.inl ⟨by rfl, ?_⟩) (by assumption) ?_
    rotate_left
    · (intro w_ hS_; (try dsimp only at hS_); go_simp; try with_reducible rfl)
    try simp only [Act.put, List.setIfInBounds_toArray, List.set_cons_zero, List.set_cons_succ]
    refine wpAnyH_take (i := 8) (oi := ⟨some 29, .move (.tmp 5), 3, "vcpu.go:68", #[], none⟩) (v := ?_) rfl (by kernel_rfl) (by kernel_rfl) (by kernel_rfl) (fun _ _ _ h => h) (Or.inl ⟨by rfl, ?_⟩) (by assumption) ?_
    rotate_left
    · (intro w_ hS_; (try dsimp only at hS_); go_simp; try with_reducible rfl)
    try simp only [Act.put, List.setIfInBounds_toArray, List.set_cons_zero, List.set_cons_succ]
    refine wpAnyH_ready (rs := [9]) (by kernel_rfl) (by simp) ?_
    refine AllReadyH.cons (o := ⟨some 30, .call ⟨.value (.func 22), #[.tmp 28, .tmp 29], #[22, 3]⟩, 3, "vcpu.go:68", #[⟨7, .data⟩, ⟨8, .data⟩], none⟩) rfl (fun K hK => ?_) AllReadyH.nil
    go_simp
    (have hq_ := hHeld; (try dsimp only at hq_); go_split_ands)
    refine (HF.out _ (by assumption) (by assumption)).mono ?_
    rintro e w4 ⟨rfl, hb⟩
    refine hK.out _ _ ?_ (fun hHeld => ?_)
    · (go_split_ands; exact ⟨rk1 (by assumption) hb, rk2 (by assumption) (by assumption) hb, rk1 (by assumption) hb, rk2 (by assumption) (by assumption) hb, Aside2.low (by assumption) hb⟩)
    clear hK K
    try simp only [Act.put, List.setIfInBounds_toArray, List.set_cons_zero, List.set_cons_succ]
    refine wpAnyH_take (i := 10) (oi := ⟨some 31, .indexAddr 22 (.tmp 24) (.tmp 30), 0, "vcpu.go:68", #[⟨3, .data⟩, ⟨9, .data⟩], none⟩) (v := ?_) rfl (by kernel_rfl) (by kernel_rfl) (by kernel_rfl) (fun _ _ _ h => h) (Or.inl ⟨by rfl, ?_⟩) (by assumption) ?_
    rotate_left
    · (intro w_ hS_; (try dsimp only at hS_); go_simp; try with_reducible rfl)
    try simp only [Act.put, List.setIfInBounds_toArray, List.set_cons_zero, List.set_cons_succ]
    refine wpAnyH_take (i := 11) (oi := ⟨some 7, .assign (.tmp 31), 91, "vcpu.go:68", #[⟨10, .data⟩, ⟨9, .chain⟩, ⟨0, .phase⟩, ⟨1, .phase⟩, ⟨2, .phase⟩, ⟨3, .phase⟩, ⟨4, .phase⟩, ⟨5, .phase⟩, ⟨6, .phase⟩, ⟨7, .phase⟩, ⟨8, .phase⟩, ⟨9, .phase⟩, ⟨10, .phase⟩], none⟩) (v := ?_) rfl (by kernel_rfl) (by kernel_rfl) (by kernel_rfl) (fun _ _ _ h => h) (Or.inl ⟨by rfl, ?_⟩) (by assumption) ?_
    rotate_left
    · (intro w_ hS_; (try dsimp only at hS_); go_simp; try with_reducible rfl)
    try simp only [Act.put, List.setIfInBounds_toArray, List.set_cons_zero, List.set_cons_succ]
    refine wpAnyH_done (by kernel_rfl) ?_ _
    (try dsimp only at hHeld)
    go_split_ands
    go_wp2
    go_ret
    exact ⟨rfl, ⟨by go_simp, by go_simp⟩, ⟨by go_simp, by go_simp⟩, by go_simp⟩
end Go.Proofs.Ytkbaghblchlcnaa.Lr.Wd
