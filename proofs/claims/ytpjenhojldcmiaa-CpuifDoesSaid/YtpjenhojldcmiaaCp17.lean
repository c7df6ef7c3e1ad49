/- The walk by hand of the law CpuifDoes of layer 14, and the law. -/
import Derived.Test.YtpjenhojldcmiaaCp15
import Derived.Test.YtpjenhojldcmiaaAw
import Derived.Deep.RegionHeld3
import Derived.Test.YtpjenhojldcmiaaIAllx0
namespace Go.Proofs.Ytpjenhojldcmiaa.IAll
open Go.RowKit Go.Shelf Go.Proofs.YtpjenhojldcmiaaW.PrintWords
structure S64 where
  f0 : Int
  f1 : Int
  f2 : Int
  f3 : Int
  f4 : Int
  f5 : Bool
  f6 : Int
  f7 : Int
def z64 : S64 := ⟨(0 : Int), (0 : Int), (0 : Int), (0 : Int), (0 : Int), false, (0 : Int), (0 : Int)⟩
def k64 : Kd S64 := Kd.iso (Kd.pair (Kd.int .i64) (Kd.pair (Kd.int .i64) (Kd.pair (Kd.int .i64) (Kd.pair (Kd.int .i64) (Kd.pair (Kd.int .i64) (Kd.pair (Kd.bool) (Kd.pair (Kd.int .i64) (Kd.int .u64)))))))) (fun x : S64 => (x.f0, x.f1, x.f2, x.f3, x.f4, x.f5, x.f6, x.f7))
theorem k64_open {w : World} {x : S64} {cs : List Value} (h : k64.K w x cs) : cs = [.int .i64 x.f0, .int .i64 x.f1, .int .i64 x.f2, .int .i64 x.f3, .int .i64 x.f4, .bool x.f5, .int .i64 x.f6, .int .u64 x.f7] := by
  obtain ⟨_, _, rfl, rfl, ⟨_, _, rfl, rfl, ⟨_, _, rfl, rfl, ⟨_, _, rfl, rfl, ⟨_, _, rfl, rfl, ⟨_, _, rfl, rfl, ⟨_, _, rfl, rfl, rfl⟩⟩⟩⟩⟩⟩⟩ := h
  exact rfl
theorem k64_mk (w : World) (x : S64)  : k64.K w x [.int .i64 x.f0, .int .i64 x.f1, .int .i64 x.f2, .int .i64 x.f3, .int .i64 x.f4, .bool x.f5, .int .i64 x.f6, .int .u64 x.f7] := ⟨[.int .i64 x.f0], [.int .i64 x.f1, .int .i64 x.f2, .int .i64 x.f3, .int .i64 x.f4, .bool x.f5, .int .i64 x.f6, .int .u64 x.f7], rfl, rfl, ⟨[.int .i64 x.f1], [.int .i64 x.f2, .int .i64 x.f3, .int .i64 x.f4, .bool x.f5, .int .i64 x.f6, .int .u64 x.f7], rfl, rfl, ⟨[.int .i64 x.f2], [.int .i64 x.f3, .int .i64 x.f4, .bool x.f5, .int .i64 x.f6, .int .u64 x.f7], rfl, rfl, ⟨[.int .i64 x.f3], [.int .i64 x.f4, .bool x.f5, .int .i64 x.f6, .int .u64 x.f7], rfl, rfl, ⟨[.int .i64 x.f4], [.bool x.f5, .int .i64 x.f6, .int .u64 x.f7], rfl, rfl, ⟨[.bool x.f5], [.int .i64 x.f6, .int .u64 x.f7], rfl, rfl, ⟨[.int .i64 x.f6], [.int .u64 x.f7], rfl, rfl, rfl⟩⟩⟩⟩⟩⟩⟩
def rd_T64 (xs : List S64) (i : Int) : S64 := xs.getD i.toNat z64
theorem at_T64 {w : World} {A : Option Addr} {n : Nat} {xs : List S64} (h : Kd.C k64 w A n xs) (i : Int) (h0 : 0 ≤ i) (h1 : i < n) : ∃ ad , A = some ad ∧ w.cell? (ad.add (i.toNat * 8)) = some (.int .i64 (rd_T64 xs i).f0) ∧ w.cell? ⟨(ad.add (i.toNat * 8)).block, (ad.add (i.toNat * 8)).off + 1, none⟩ = some (.int .i64 (rd_T64 xs i).f1) ∧ w.cell? ⟨(ad.add (i.toNat * 8)).block, (ad.add (i.toNat * 8)).off + 2, none⟩ = some (.int .i64 (rd_T64 xs i).f2) ∧ w.cell? ⟨(ad.add (i.toNat * 8)).block, (ad.add (i.toNat * 8)).off + 3, none⟩ = some (.int .i64 (rd_T64 xs i).f3) ∧ w.cell? ⟨(ad.add (i.toNat * 8)).block, (ad.add (i.toNat * 8)).off + 4, none⟩ = some (.int .i64 (rd_T64 xs i).f4) ∧ w.cell? ⟨(ad.add (i.toNat * 8)).block, (ad.add (i.toNat * 8)).off + 5, none⟩ = some (.bool (rd_T64 xs i).f5) ∧ w.cell? ⟨(ad.add (i.toNat * 8)).block, (ad.add (i.toNat * 8)).off + 6, none⟩ = some (.int .i64 (rd_T64 xs i).f6) ∧ w.cell? ⟨(ad.add (i.toNat * 8)).block, (ad.add (i.toNat * 8)).off + 7, none⟩ = some (.int .u64 (rd_T64 xs i).f7) := by
  obtain ⟨ad, c, e, _, hK, hc0⟩ := Kd.C_get h z64 i h0 h1
  have hc : ∀ j u, c[j]? = some u → w.cell? (ad.add (i.toNat * 8 + j)) = some u := hc0
  obtain rfl := k64_open hK
  exact ⟨ad, e, hc 0 _ rfl, by rw [← add_field _ _ 1 (by omega)]; exact hc 1 _ rfl, by rw [← add_field _ _ 2 (by omega)]; exact hc 2 _ rfl, by rw [← add_field _ _ 3 (by omega)]; exact hc 3 _ rfl, by rw [← add_field _ _ 4 (by omega)]; exact hc 4 _ rfl, by rw [← add_field _ _ 5 (by omega)]; exact hc 5 _ rfl, by rw [← add_field _ _ 6 (by omega)]; exact hc 6 _ rfl, by rw [← add_field _ _ 7 (by omega)]; exact hc 7 _ rfl⟩
theorem rd_mem64 (l : List S64) (k : Nat) (hk : k < l.length) : rd_T64 l (k : Int) ∈ l := by
  unfold rd_T64
  rw [Int.toNat_natCast, List.getD_eq_getElem?_getD, List.getElem?_eq_getElem hk]
  exact List.getElem_mem hk
end Go.Proofs.Ytpjenhojldcmiaa.IAll
namespace Go.Proofs.Ytpjenhojldcmiaa
open Go.RowKit Go.Shelf
attribute [local go_sem] Oper.semAt_some cell_row frozen_row isRow_setCell_eq rowAt_setCell_same rowAt_setCell_other isRow_alloc_eq rowAt_alloc rowAt_new isRow_setRow_eq rowAt_setRow_same rowAt_setRow_other isRow_drew rowAt_drew size_setRow_ Lb_size Lb_at blk_ptr aggOf_agg below_alloc_r below_setCell_r below_setRow_r below_drew_r le_add_r RC_size RC_get0 RC_at0 RC_set0 RC_get1 RC_at1 RC_set1 RC_get2 RC_at2 RC_set2 RC_get3 RC_at3 RC_set3 RC_get4 RC_at4 RC_set4 RC_get5 RC_at5 RC_set5 zeroF RC_ext RC_spl RC_one offv_ptr one_lad zero_lad allOne_nil allOne_cons Value.oneCell' zero_rc
attribute [local go_sem ↓] loadF storeF loadA storeA loadM storeM
open Go.Proofs.YtpjenhojldcmiaaW.PrintWords Go.Proofs.Ytpjenhojldcmiaa.IAll
attribute [local go_sem] eq2i eq2b
theorem eq2u (d : Nat) (w : World) (x0 y0 : Int) (x1 y1 : Int) :
    (Op.equalIn (d + 2) 25 (.agg #[.int .u32 x0, .int .u32 x1]) (.agg #[.int .u32 y0, .int .u32 y1])).run Try.prog w = .ok (x0 == y0 && (x1 == y1)) w := by
  obtain ⟨i, hi⟩ := Option.isSome_iff_exists.1 (show (Try.prog.info? 24).isSome = true by kernel_rfl)
  refine eqArr_of Try.underlying25 hi (show Try.prog.cellsOf 24 = 1 by kernel_rfl) (by rfl) ?_
  refine eqi_cons (by go_simp; rfl) (by go_simp; rfl) (by go_simp) ?_
  exact eqi_last (by go_simp; rfl) (by go_simp; rfl) (by go_simp)
attribute [local go_sem] eq2u
set_option maxRecDepth 100000 in
set_option maxHeartbeats 4000000 in
theorem does14_c (m p0 p1 : Int) (o0 o1 sp : Bool) (a b : Int) (ha : U32 a) (hb : U32 b) (A : Option Addr) (c : Nat) (l : List S64) (hv : ∀ p ∈ l, 0 ≤ p.f7 ∧ p.f7 ≤ 18446744073709551615) (w : World) (hC : Kd.C k64 w A l.length l) :
    Calls Try.prog 8 #[.agg #[.int .i64 m, .int .i64 p0, .int .i64 p1, .bool o0, .bool o1, .bool sp, .int .u32 a, .int .u32 b], .slice A l.length c] w fun e w' => e = .returned (.bool true) ∧ Below w.heap.size w w' := by
  have HC := Lib.hid hC
  have hmax := Kd.C_max hC
  clear hC
  have HV := Lib.hid hv
  clear hv
  have HAW := Lib.hid (fun W : World => awake_c W)
  have HTO := Lib.hid (fun W : World => Told_c m p0 p1 o0 o1 sp a b ha.1 ha.2 hb.1 hb.2 W)
  have hB0 : Below w.heap.size w (w.alloc (.cells #[.int .i64 m, .int .i64 p0, .int .i64 p1, .bool o0, .bool o1, .bool sp, .int .u32 a, .int .u32 b] 29)) := (Below.refl _ w).alloc (Nat.le_refl _) _
  obtain ⟨R0, R0'⟩ : Row (w.alloc (.cells #[.int .i64 m, .int .i64 p0, .int .i64 p1, .bool o0, .bool o1, .bool sp, .int .u32 a, .int .u32 b] 29)) w.heap.size #[.int .i64 m, .int .i64 p0, .int .i64 p1, .bool o0, .bool o1, .bool sp, .int .u32 a, .int .u32 b] := Row.new _ _ _
  go_enter Try.func8, Try.ntmps8
  go_wp2_with fail
  refine (HAW.out _).mono ?_
  rintro e v0 ⟨rfl, hb0⟩
  obtain ⟨R8, R8'⟩ := Row.step R0 R0' hb0
  have hB_0 := bk hB0 hB0.size hb0
  clear R0 R0' hB0 hb0
  go_wp2_with fail
  refine (HTO.out _).mono ?_
  rintro e v1 ⟨rfl, hb1⟩
  obtain ⟨S8, S8'⟩ := Row.step R8 R8' hb1
  have hB_1 := bk hB_0 hB_0.size hb1
  clear R8 R8' hB_0 hb1
  have hz1 : w.heap.size ≤ v1.heap.size := hB_1.size
  have hlt8 : w.heap.size < v1.heap.size := isRow.lt S8
  have n89 : ¬ w.heap.size = v1.heap.size := by omega
  have n98 : ¬ v1.heap.size = w.heap.size := by omega
  go_wp2_with fail
  have T8 : isRow ((v1.alloc (.cells (RC 0 0 0 false false false fun _ => false) 61)).setRow v1.heap.size (RC m p0 p1 o0 o1 sp (rb a b))) w.heap.size := by go_simp
  have T8' : rowAt ((v1.alloc (.cells (RC 0 0 0 false false false fun _ => false) 61)).setRow v1.heap.size (RC m p0 p1 o0 o1 sp (rb a b))) w.heap.size = #[.int .i64 m, .int .i64 p0, .int .i64 p1, .bool o0, .bool o1, .bool sp, .int .u32 a, .int .u32 b] := by go_simp
  obtain ⟨T9, T9'⟩ : Row ((v1.alloc (.cells (RC 0 0 0 false false false fun _ => false) 61)).setRow v1.heap.size (RC m p0 p1 o0 o1 sp (rb a b))) v1.heap.size (RC m p0 p1 o0 o1 sp (rb a b)) := Row.setRow (by go_simp)
  have hB_2 : Below w.heap.size w ((v1.alloc (.cells (RC 0 0 0 false false false fun _ => false) 61)).setRow v1.heap.size (RC m p0 p1 o0 o1 sp (rb a b))) := below_setRow (hB_1.alloc hz1 _) hz1 _
  generalize ((v1.alloc (.cells (RC 0 0 0 false false false fun _ => false) 61)).setRow v1.heap.size (RC m p0 p1 o0 o1 sp (rb a b))) = v2 at *
  clear S8 S8' hB_1
  generalize v1.heap.size = g9 at *
  go_loopw [7] (fun i wr => ∃ k : Nat, k ≤ l.length ∧ i = .int .i64 k ∧ ∃ (m p0 p1 : Int) (o0 o1 sp : Bool) (a b : Int), U32 a ∧ U32 b ∧ Row wr w.heap.size #[.int .i64 m, .int .i64 p0, .int .i64 p1, .bool o0, .bool o1, .bool sp, .int .u32 a, .int .u32 b] ∧ Row wr g9 (RC m p0 p1 o0 o1 sp (rb a b)) ∧ Below w.heap.size w wr) (fun i _ => l.length - (intOf i).toNat)
  case atStart => exact ⟨0, by omega, rfl, m, p0, p1, o0, o1, sp, a, b, ha, hb, ⟨T8, T8'⟩, ⟨T9, T9'⟩, hB_2⟩
  case round =>
    clear T8 T8' T9 T9' hB_2 ha hb HTO HAW
    obtain ⟨k, hk, rfl, m1, p01, p11, o01, o11, sp1, a1, b1, ha, hb, ⟨R8, R8'⟩, ⟨R9, R9'⟩, hB⟩ := hrel
    by_cases hlt : k < l.length
    · obtain ⟨ad, rfl, c0, c1, c2, c3, c4, c5, c6, c7⟩ := at_T64 (Kd.C_below HC.out hB) (k : Int) (by omega) (by omega)
      obtain ⟨hv0, hv1⟩ := HV.out _ (rd_mem64 l k hlt)
      simp only [Int.toNat_natCast] at c0 c1 c2 c3 c4 c5 c6 c7
      generalize (rd_T64 l k).f0 = d at *
      generalize (rd_T64 l k).f1 = gp at *
      generalize (rd_T64 l k).f2 = id at *
      generalize (rd_T64 l k).f3 = pr at *
      generalize (rd_T64 l k).f4 = gr at *
      generalize (rd_T64 l k).f5 = is at *
      generalize (rd_T64 l k).f6 = r at *
      generalize (rd_T64 l k).f7 = v at *
      have HDO := Lib.hid (fun (W : World) (h : isRow W w.heap.size) (h' : rowAt W w.heap.size = #[.int .i64 m1, .int .i64 p01, .int .i64 p11, .bool o01, .bool o11, .bool sp1, .int .u32 a1, .int .u32 b1]) => does_c w.heap.size m1 p01 p11 o01 o11 sp1 a1 b1 d gp id pr gr is r v ha hb hv0 hv1 W h h')
      clear ha hb
      have hz : w.heap.size ≤ wr.heap.size := hB.size
      have l8 := R8.lt
      have l9 := R9.lt
      have n8 : ¬ w.heap.size = wr.heap.size := by omega
      have n8' : ¬ wr.heap.size = w.heap.size := by omega
      have n9 : ¬ g9 = wr.heap.size := by omega
      have n9' : ¬ wr.heap.size = g9 := by omega
      go_wp2_with fail
      refine (HDO.out _ (by go_simp) (by go_simp)).mono ?_
      rintro e v7 ⟨m2, p02, p12, o02, o12, sp2, a2, b2, ha2, hb2, rfl, ⟨X8, X8'⟩, hA⟩
      obtain ⟨X9, X9'⟩ : Row v7 g9 (RC m1 p01 p11 o01 o11 sp1 (rb a1 b1)) := hA.row ⟨by go_simp, by go_simp⟩ (by omega)
      obtain ⟨X11, X11'⟩ : Row v7 wr.heap.size #[.int .i64 d, .int .i64 gp, .int .i64 id, .int .i64 pr, .int .i64 gr, .bool is, .int .i64 r, .int .u64 v] := hA.row ⟨by go_simp, by go_simp⟩ (by omega)
      have hB7 : Below w.heap.size w v7 := hA.below (by go_simp) (Nat.le_refl _) (by go_simp)
      have hz7 : w.heap.size ≤ v7.heap.size := hB7.size
      have l8 := X8.lt
      have l9 := X9.lt
      have l11 := X11.lt
      have e8 : ¬ w.heap.size = v7.heap.size := by omega
      have e9 : ¬ g9 = v7.heap.size := by omega
      have e9' : ¬ v7.heap.size = g9 := by omega
      have e11 : ¬ wr.heap.size = v7.heap.size := by omega
      clear R8 R8' R9 R9' hB hA HDO c0 c1 c2 c3 c4 c5 c6 c7 hv0 hv1
      have hRD := fun W : World => Read_c m2 p02 p12 o02 o12 sp2 a2 b2 r W
      have hRR := fun W : World => rReadI_c m2 p02 p12 o02 o12 sp2 a2 b2 r W
      have hAL := fun W : World => Alike14_c m2 p02 p12 o02 o12 sp2 a2 b2 ha2.1 ha2.2 hb2.1 hb2.2 W
      have hMA := fun W : World => May_c m2 p02 p12 o02 o12 sp2 a2 b2 id pr gr is W
      have hRM := fun W : World => rMay_c m2 p02 p12 o02 o12 sp2 a2 b2 id pr gr is W
      have hSH := fun W : World => Shows_c m2 p02 p12 o02 o12 sp2 a2 b2 id pr gr is gp W
      have hRS := fun W : World => rShows_c m2 p02 p12 o02 o12 sp2 a2 b2 id pr gr is gp W
      have hRE : ∀ W : World, Calls Try.prog 27 #[.int .i64 id] W fun e w' => e = .returned (.bool (realC id)) ∧ Below W.heap.size W w' := fun W => (CReal_c id W).mono fun e w' ⟨h, hw⟩ => ⟨h, hw ▸ Below.refl _ _⟩
      have hRC : ∀ W : World, Calls Try.prog 28 #[.int .i64 id] W fun e w' => e = .returned (.bool (realC id)) ∧ Below W.heap.size W w' := fun W => (RReal_c id W).mono fun e w' ⟨h, hw⟩ => ⟨h, hw ▸ Below.refl _ _⟩
      have hDE := fun W : World => Depth_c m2 p02 p12 o02 o12 sp2 a2 b2 ha2 hb2 W
      have hLE := fun W : World => LLen_c a2 b2 ha2 hb2 W
      generalize rdN r m2 p02 p12 o02 o12 sp2 a2 b2 = q1 at hRD hRR
      generalize rdOk r = q2 at hRD hRR
      generalize mayP m2 p02 p12 o02 o12 a2 b2 pr gr is = q3 at hMA hRM
      generalize showsP o02 o12 id gr is gp = q4 at hSH hRS
      generalize realC id = q5 at hRE hRC
      generalize ((pop a2 32 + pop b2 32 : Nat) : Int) = q6 at hDE hLE
      generalize hf : rb a2 b2 = f2 at *
      have HRD := Lib.hid hRD
      have HRR := Lib.hid hRR
      have HAL := Lib.hid hAL
      have HMA := Lib.hid hMA
      have HRM := Lib.hid hRM
      have HSH := Lib.hid hSH
      have HRS := Lib.hid hRS
      have HRE := Lib.hid hRE
      have HRC := Lib.hid hRC
      have HDE := Lib.hid hDE
      have HLE := Lib.hid hLE
      have HF := Lib.hid hf
      clear hRD hRR hAL hMA hRM hSH hRS hRE hRC hDE hLE hf
      have HA2 := Lib.hid ha2
      have HB2 := Lib.hid hb2
      clear ha2 hb2
      go_wp2_with fail
      have Y8 : isRow (((v7.alloc (.cells (RC 0 0 0 false false false fun _ => false) 61)).setRow v7.heap.size (RC m2 p02 p12 o02 o12 sp2 f2)).setRow g9 (RC m2 p02 p12 o02 o12 sp2 f2)) w.heap.size := by go_simp
      have Y8' : rowAt (((v7.alloc (.cells (RC 0 0 0 false false false fun _ => false) 61)).setRow v7.heap.size (RC m2 p02 p12 o02 o12 sp2 f2)).setRow g9 (RC m2 p02 p12 o02 o12 sp2 f2)) w.heap.size = #[.int .i64 m2, .int .i64 p02, .int .i64 p12, .bool o02, .bool o12, .bool sp2, .int .u32 a2, .int .u32 b2] := by go_simp
      obtain ⟨Y9, Y9'⟩ : Row (((v7.alloc (.cells (RC 0 0 0 false false false fun _ => false) 61)).setRow v7.heap.size (RC m2 p02 p12 o02 o12 sp2 f2)).setRow g9 (RC m2 p02 p12 o02 o12 sp2 f2)) g9 (RC m2 p02 p12 o02 o12 sp2 f2) := Row.setRow (by go_simp)
      have Y11 : isRow (((v7.alloc (.cells (RC 0 0 0 false false false fun _ => false) 61)).setRow v7.heap.size (RC m2 p02 p12 o02 o12 sp2 f2)).setRow g9 (RC m2 p02 p12 o02 o12 sp2 f2)) wr.heap.size := by go_simp
      have Y11' : rowAt (((v7.alloc (.cells (RC 0 0 0 false false false fun _ => false) 61)).setRow v7.heap.size (RC m2 p02 p12 o02 o12 sp2 f2)).setRow g9 (RC m2 p02 p12 o02 o12 sp2 f2)) wr.heap.size = #[.int .i64 d, .int .i64 gp, .int .i64 id, .int .i64 pr, .int .i64 gr, .bool is, .int .i64 r, .int .u64 v] := by go_simp
      have hB8 : Below w.heap.size w (((v7.alloc (.cells (RC 0 0 0 false false false fun _ => false) 61)).setRow v7.heap.size (RC m2 p02 p12 o02 o12 sp2 f2)).setRow g9 (RC m2 p02 p12 o02 o12 sp2 f2)) := below_setRow (below_setRow (hB7.alloc hz7 _) hz7 _) (by omega) _
      generalize (((v7.alloc (.cells (RC 0 0 0 false false false fun _ => false) 61)).setRow v7.heap.size (RC m2 p02 p12 o02 o12 sp2 f2)).setRow g9 (RC m2 p02 p12 o02 o12 sp2 f2)) = v8 at *
      clear X8 X8' X9 X9' X11 X11' hB7
      generalize v7.heap.size = g12 at *
      refine (HRD.out _).mono ?_
      rintro e v9 ⟨rfl, hb9⟩
      obtain ⟨Z8, Z8'⟩ := Row.step Y8 Y8' hb9
      obtain ⟨Z9, Z9'⟩ := Row.step Y9 Y9' hb9
      obtain ⟨Z11, Z11'⟩ := Row.step Y11 Y11' hb9
      have hB9 := bk hB8 hB8.size hb9
      clear Y8 Y8' Y9 Y9' Y11 Y11' hB8 hb9
      go_wp2_with fail
      refine (HRR.out _).mono ?_
      rintro e v10 ⟨rfl, hb10⟩
      obtain ⟨U8, U8'⟩ := Row.step Z8 Z8' hb10
      obtain ⟨U9, U9'⟩ := Row.step Z9 Z9' hb10
      obtain ⟨U11, U11'⟩ := Row.step Z11 Z11' hb10
      have hB10 := bk hB9 hB9.size hb10
      clear Z8 Z8' Z9 Z9' Z11 Z11' hB9 hb10
      go_wp2_with fail
      (first | go_region_held3 (fun w' => isRow w' w.heap.size ∧ rowAt w' w.heap.size = #[.int .i64 m2, .int .i64 p02, .int .i64 p12, .bool o02, .bool o12, .bool sp2, .int .u32 a2, .int .u32 b2] ∧ isRow w' g9 ∧ rowAt w' g9 = (RC m2 p02 p12 o02 o12 sp2 f2) ∧ isRow w' wr.heap.size ∧ rowAt w' wr.heap.size = #[.int .i64 d, .int .i64 gp, .int .i64 id, .int .i64 pr, .int .i64 gr, .bool is, .int .i64 r, .int .u64 v] ∧ Below w.heap.size w w')
        (first | exact ⟨U8, U8', U9, U9', U11, U11', below_drew0 hB10⟩ | (go_split_ands; exact ⟨rk1 (by assumption) hb, rk2 (by assumption) (by assumption) hb, rk1 (by assumption) hb, rk2 (by assumption) (by assumption) hb, rk1 (by assumption) hb, rk2 (by assumption) (by assumption) hb, bk (by assumption) (Below.size (by assumption)) hb⟩))
        ((first | (go_at_call 24; (with_reducible refine (HAL.out _).mono ?_); rintro e w4 ⟨rfl, hb⟩) | (go_at_call 13; (with_reducible refine (HMA.out _).mono ?_); rintro e w4 ⟨rfl, hb⟩) | (go_at_call 25; (with_reducible refine (HRM.out _).mono ?_); rintro e w4 ⟨rfl, hb⟩) | (go_at_call 19; (with_reducible refine (HSH.out _).mono ?_); rintro e w4 ⟨rfl, hb⟩) | (go_at_call 26; (with_reducible refine (HRS.out _).mono ?_); rintro e w4 ⟨rfl, hb⟩) | (go_at_call 27; (with_reducible refine (HRE.out _).mono ?_); rintro e w4 ⟨rfl, hb⟩) | (go_at_call 28; (with_reducible refine (HRC.out _).mono ?_); rintro e w4 ⟨rfl, hb⟩) | (go_at_call 20; (with_reducible refine (HDE.out _).mono ?_); rintro e w4 ⟨rfl, hb⟩) | (go_at_call 29; (with_reducible refine (HLE.out _).mono ?_); rintro e w4 ⟨rfl, hb⟩))) | fail)
      go_split_ands
      go_wp2
      go_roundw
      case rel => exact ⟨k + 1, by omega, by go_num, m2, p02, p12, o02, o12, sp2, a2, b2, HA2.out, HB2.out, ⟨by assumption, by assumption⟩, ⟨by assumption, by rw [HF.out]; assumption⟩, by assumption⟩
      case measure => simp [intOf]; omega
    · have hkn : k = l.length := by omega
      clear ha hb
      go_wp2_with fail
      refine (New_c _).mono ?_
      rintro e v11 ⟨rfl, hb11⟩
      have hB11 := bk hB hB.size hb11
      clear R8 R8' R9 R9' hB hb11
      go_wp2
      go_ret
      exact ⟨rfl, by assumption⟩
end Go.Proofs.Ytpjenhojldcmiaa
namespace Go.Proofs.Ytpjenhojldcmiaa.Pure
open Go.RowKit Go.Proofs.YtpjenhojldcmiaaW.PrintWords Go.Proofs.Ytpjenhojldcmiaa.IAll
theorem wf_u32_ {a : Int} (h : (Lit.int .u32 a).wf = true) : U32 a := by
  simpa [Lit.wf, IntKind.min, IntKind.max, IntKind.signed, IntKind.bits, U32] using h
theorem wf_u64_ {a : Int} (h : (Lit.int .u64 a).wf = true) : 0 ≤ a ∧ a ≤ 18446744073709551615 := by
  simpa [Lit.wf, IntKind.min, IntKind.max, IntKind.signed, IntKind.bits] using h
theorem cpuifDoes_both (a0 a1 a2 : Int) (a3 a4 a5 : Bool) (a6 a7 : Int) (A2 : Option Addr) (c2 : Nat) (l2 : List S64) (w : World) (_w0 : (Lit.int .i64 a0).wf = true) (_w1 : (Lit.int .i64 a1).wf = true) (_w2 : (Lit.int .i64 a2).wf = true) (w6 : (Lit.int .u32 a6).wf = true) (w7 : (Lit.int .u32 a7).wf = true) (hC : Kd.C k64 w A2 l2.length l2) (_hl : l2.length ≤ c2) (_hm : c2 ≤ maxLen)
    (hw : ∀ p ∈ l2, (Lit.int .i64 p.f0).wf = true ∧ (Lit.int .i64 p.f1).wf = true ∧ (Lit.int .i64 p.f2).wf = true ∧ (Lit.int .i64 p.f3).wf = true ∧ (Lit.int .i64 p.f4).wf = true ∧ (Lit.int .i64 p.f6).wf = true ∧ (Lit.int .u64 p.f7).wf = true) :
    Calls Try.prog 8 #[.agg #[.int .i64 a0, .int .i64 a1, .int .i64 a2, .bool a3, .bool a4, .bool a5, .int .u32 a6, .int .u32 a7], .slice A2 l2.length c2] w fun e w' => e = .returned (.bool true) ∧ Below w.heap.size w w' :=
  does14_c a0 a1 a2 a3 a4 a5 a6 a7 (wf_u32_ w6) (wf_u32_ w7) A2 c2 l2 (fun p hp => wf_u64_ (hw p hp).2.2.2.2.2.2) w hC
end Go.Proofs.Ytpjenhojldcmiaa.Pure
