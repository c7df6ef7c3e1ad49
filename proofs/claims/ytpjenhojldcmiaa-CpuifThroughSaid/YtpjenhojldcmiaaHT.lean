/- Contract by hand of layer 14: what is taken. -/
import Derived.Test.YtpjenhojldcmiaaIAllx5
import Derived.Test.YtpjenhojldcmiaaSets
import Derived.Deep.RegionWith
namespace Go.Proofs.Ytpjenhojldcmiaa.IAll
open Go.RowKit Go.Proofs.YtpjenhojldcmiaaW.PrintWords Go.Proofs.YtpjenhojldcmiaaW.PrintLast Go.Proofs.YtpjenhojldcmiaaW.PrintMore

def cpuif_If_Take.f (s0 s1 s2 : Int) (s3 s4 s5 : Bool) (s6 s7 : Int) (c0 c1 c2 : Int) (c3 : Bool) (a2 : Int) : Option (Int × Bool × Int × Int × Int × Bool × Bool × Bool × Int × Int) :=
  (cpuif_If_May.f s0 s1 s2 s3 s4 s5 s6 s7 c0 c1 c2 c3).bind fun m => if m = true then (if c2 = a2 then ((cpuif_If_mask.f s0 s1 s2 s3 s4 s5 s6 s7 a2).bind fun k => (ladder_Ladder_Push.f s6 s7 a2 (Go.bits .and .i64 c1 k)).bind fun p => some (c0, true, s0, s1, s2, s3, s4, s5, p.1, p.2)) else some (1023, false, s0, s1, s2, s3, s4, s5, s6, s7)) else some (1023, false, s0, s1, s2, s3, s4, s5, s6, s7)

theorem keep_cell {w w1 : World} {a : Addr} {v : Value} (hb : Below w.heap.size w w1) (h : w.cell? a = some v) : w1.cell? a = some v := (hb.cell (Go.Proofs.Ytpjenhojldcmiaa.cell_lt h)).trans h
set_option maxRecDepth 100000 in
set_option maxHeartbeats 4000000 in
theorem take_no1 (g : Nat) (s0 s1 s2 : Int) (s3 s4 s5 : Bool) (s6 s7 : Int) (c0 c1 c2 : Int) (c3 : Bool) (a2 : Int) (w : World)
    (hg : w.heap[g]? = some (.cells #[.int .i64 s0, .int .i64 s1, .int .i64 s2, .bool s3, .bool s4, .bool s5, .int .u32 s6, .int .u32 s7] 29 (0, 0)))
    (hm : cpuif_If_May.f s0 s1 s2 s3 s4 s5 s6 s7 c0 c1 c2 c3 = some false) :
    Calls Try.prog 10 #[.pointer (some ⟨g, 0, none⟩), .agg #[.int .i64 c0, .int .i64 c1, .int .i64 c2, .bool c3], .int .i64 a2] w fun e w' => e = .returned (.tuple #[.int .i64 1023, .bool false]) ∧ Below w.heap.size w w' := by
  have HM := Lib.hid hm
  clear hm
  have hb0 : Below w.heap.size w (w.alloc (.cells #[.int .i64 c0, .int .i64 c1, .int .i64 c2, .bool c3] 31)) := (Below.refl _ w).alloc (Nat.le_refl _) _
  have hs0 : w.heap.size ≤ (w.alloc (.cells #[.int .i64 c0, .int .i64 c1, .int .i64 c2, .bool c3] 31)).heap.size := hb0.size
  have hgl : g < w.heap.size := (Array.getElem?_eq_some_iff.1 hg).1
  have hg0 : (w.alloc (.cells #[.int .i64 c0, .int .i64 c1, .int .i64 c2, .bool c3] 31)).heap[g]? = some (.cells #[.int .i64 s0, .int .i64 s1, .int .i64 s2, .bool s3, .bool s4, .bool s5, .int .u32 s6, .int .u32 s7] 29 (0, 0)) := blk_alloc hg _
  have k0 : (w.alloc (.cells #[.int .i64 c0, .int .i64 c1, .int .i64 c2, .bool c3] 31)).cell? ⟨g, 0, none⟩ = some (.int .i64 s0) := (blk_cell (blk_alloc hg _) 0).trans rfl
  have k1 : (w.alloc (.cells #[.int .i64 c0, .int .i64 c1, .int .i64 c2, .bool c3] 31)).cell? ⟨g, 1, none⟩ = some (.int .i64 s1) := (blk_cell (blk_alloc hg _) 1).trans rfl
  have k2 : (w.alloc (.cells #[.int .i64 c0, .int .i64 c1, .int .i64 c2, .bool c3] 31)).cell? ⟨g, 2, none⟩ = some (.int .i64 s2) := (blk_cell (blk_alloc hg _) 2).trans rfl
  have k3 : (w.alloc (.cells #[.int .i64 c0, .int .i64 c1, .int .i64 c2, .bool c3] 31)).cell? ⟨g, 3, none⟩ = some (.bool s3) := (blk_cell (blk_alloc hg _) 3).trans rfl
  have k4 : (w.alloc (.cells #[.int .i64 c0, .int .i64 c1, .int .i64 c2, .bool c3] 31)).cell? ⟨g, 4, none⟩ = some (.bool s4) := (blk_cell (blk_alloc hg _) 4).trans rfl
  have k5 : (w.alloc (.cells #[.int .i64 c0, .int .i64 c1, .int .i64 c2, .bool c3] 31)).cell? ⟨g, 5, none⟩ = some (.bool s5) := (blk_cell (blk_alloc hg _) 5).trans rfl
  have k6 : (w.alloc (.cells #[.int .i64 c0, .int .i64 c1, .int .i64 c2, .bool c3] 31)).cell? ⟨g, 6, none⟩ = some (.int .u32 s6) := (blk_cell (blk_alloc hg _) 6).trans rfl
  have k7 : (w.alloc (.cells #[.int .i64 c0, .int .i64 c1, .int .i64 c2, .bool c3] 31)).cell? ⟨g, 7, none⟩ = some (.int .u32 s7) := (blk_cell (blk_alloc hg _) 7).trans rfl
  have k8 : (w.alloc (.cells #[.int .i64 c0, .int .i64 c1, .int .i64 c2, .bool c3] 31)).cell? ⟨w.heap.size, 0, none⟩ = some (.int .i64 c0) := (BoxN.new w 31 _).cell (i := 0) rfl
  have k9 : (w.alloc (.cells #[.int .i64 c0, .int .i64 c1, .int .i64 c2, .bool c3] 31)).cell? ⟨w.heap.size, 1, none⟩ = some (.int .i64 c1) := (BoxN.new w 31 _).cell (i := 1) rfl
  have k10 : (w.alloc (.cells #[.int .i64 c0, .int .i64 c1, .int .i64 c2, .bool c3] 31)).cell? ⟨w.heap.size, 2, none⟩ = some (.int .i64 c2) := (BoxN.new w 31 _).cell (i := 2) rfl
  have k11 : (w.alloc (.cells #[.int .i64 c0, .int .i64 c1, .int .i64 c2, .bool c3] 31)).cell? ⟨w.heap.size, 3, none⟩ = some (.bool c3) := (BoxN.new w 31 _).cell (i := 3) rfl
  go_enter Try.func10, Try.ntmps10
  go_wp2_with fail
  generalize w.alloc (.cells #[.int .i64 c0, .int .i64 c1, .int .i64 c2, .bool c3] 31) = W at *
  (first | go_region_with (go_at_call 13; refine (cpuif_If_May.calls _ _ _ _ _ _ _ _ _ _ _ _ _ _ HM.out).mono ?_; rintro e w1 ⟨rfl, hb⟩; have q10 := keep_cell hb (show W.drew.cell? _ = _ from k10)) | fail)
  all_goals
    go_wp2
    go_ret2
    exact ⟨rfl, (below_drew_ hb0).trans (hb.mono hs0)⟩
set_option maxRecDepth 100000 in
set_option maxHeartbeats 4000000 in
theorem take_no2 (g : Nat) (s0 s1 s2 : Int) (s3 s4 s5 : Bool) (s6 s7 : Int) (c0 c1 c2 : Int) (c3 : Bool) (a2 : Int) (w : World)
    (hg : w.heap[g]? = some (.cells #[.int .i64 s0, .int .i64 s1, .int .i64 s2, .bool s3, .bool s4, .bool s5, .int .u32 s6, .int .u32 s7] 29 (0, 0)))
    (hm : cpuif_If_May.f s0 s1 s2 s3 s4 s5 s6 s7 c0 c1 c2 c3 = some true) (hn : (c2 != a2) = true) :
    Calls Try.prog 10 #[.pointer (some ⟨g, 0, none⟩), .agg #[.int .i64 c0, .int .i64 c1, .int .i64 c2, .bool c3], .int .i64 a2] w fun e w' => e = .returned (.tuple #[.int .i64 1023, .bool false]) ∧ Below w.heap.size w w' := by
  have HM := Lib.hid hm
  clear hm
  have hb0 : Below w.heap.size w (w.alloc (.cells #[.int .i64 c0, .int .i64 c1, .int .i64 c2, .bool c3] 31)) := (Below.refl _ w).alloc (Nat.le_refl _) _
  have hs0 : w.heap.size ≤ (w.alloc (.cells #[.int .i64 c0, .int .i64 c1, .int .i64 c2, .bool c3] 31)).heap.size := hb0.size
  have hgl : g < w.heap.size := (Array.getElem?_eq_some_iff.1 hg).1
  have hg0 : (w.alloc (.cells #[.int .i64 c0, .int .i64 c1, .int .i64 c2, .bool c3] 31)).heap[g]? = some (.cells #[.int .i64 s0, .int .i64 s1, .int .i64 s2, .bool s3, .bool s4, .bool s5, .int .u32 s6, .int .u32 s7] 29 (0, 0)) := blk_alloc hg _
  have k0 : (w.alloc (.cells #[.int .i64 c0, .int .i64 c1, .int .i64 c2, .bool c3] 31)).cell? ⟨g, 0, none⟩ = some (.int .i64 s0) := (blk_cell (blk_alloc hg _) 0).trans rfl
  have k1 : (w.alloc (.cells #[.int .i64 c0, .int .i64 c1, .int .i64 c2, .bool c3] 31)).cell? ⟨g, 1, none⟩ = some (.int .i64 s1) := (blk_cell (blk_alloc hg _) 1).trans rfl
  have k2 : (w.alloc (.cells #[.int .i64 c0, .int .i64 c1, .int .i64 c2, .bool c3] 31)).cell? ⟨g, 2, none⟩ = some (.int .i64 s2) := (blk_cell (blk_alloc hg _) 2).trans rfl
  have k3 : (w.alloc (.cells #[.int .i64 c0, .int .i64 c1, .int .i64 c2, .bool c3] 31)).cell? ⟨g, 3, none⟩ = some (.bool s3) := (blk_cell (blk_alloc hg _) 3).trans rfl
  have k4 : (w.alloc (.cells #[.int .i64 c0, .int .i64 c1, .int .i64 c2, .bool c3] 31)).cell? ⟨g, 4, none⟩ = some (.bool s4) := (blk_cell (blk_alloc hg _) 4).trans rfl
  have k5 : (w.alloc (.cells #[.int .i64 c0, .int .i64 c1, .int .i64 c2, .bool c3] 31)).cell? ⟨g, 5, none⟩ = some (.bool s5) := (blk_cell (blk_alloc hg _) 5).trans rfl
  have k6 : (w.alloc (.cells #[.int .i64 c0, .int .i64 c1, .int .i64 c2, .bool c3] 31)).cell? ⟨g, 6, none⟩ = some (.int .u32 s6) := (blk_cell (blk_alloc hg _) 6).trans rfl
  have k7 : (w.alloc (.cells #[.int .i64 c0, .int .i64 c1, .int .i64 c2, .bool c3] 31)).cell? ⟨g, 7, none⟩ = some (.int .u32 s7) := (blk_cell (blk_alloc hg _) 7).trans rfl
  have k8 : (w.alloc (.cells #[.int .i64 c0, .int .i64 c1, .int .i64 c2, .bool c3] 31)).cell? ⟨w.heap.size, 0, none⟩ = some (.int .i64 c0) := (BoxN.new w 31 _).cell (i := 0) rfl
  have k9 : (w.alloc (.cells #[.int .i64 c0, .int .i64 c1, .int .i64 c2, .bool c3] 31)).cell? ⟨w.heap.size, 1, none⟩ = some (.int .i64 c1) := (BoxN.new w 31 _).cell (i := 1) rfl
  have k10 : (w.alloc (.cells #[.int .i64 c0, .int .i64 c1, .int .i64 c2, .bool c3] 31)).cell? ⟨w.heap.size, 2, none⟩ = some (.int .i64 c2) := (BoxN.new w 31 _).cell (i := 2) rfl
  have k11 : (w.alloc (.cells #[.int .i64 c0, .int .i64 c1, .int .i64 c2, .bool c3] 31)).cell? ⟨w.heap.size, 3, none⟩ = some (.bool c3) := (BoxN.new w 31 _).cell (i := 3) rfl
  go_enter Try.func10, Try.ntmps10
  go_wp2_with fail
  generalize w.alloc (.cells #[.int .i64 c0, .int .i64 c1, .int .i64 c2, .bool c3] 31) = W at *
  (first | go_region_with (go_at_call 13; refine (cpuif_If_May.calls _ _ _ _ _ _ _ _ _ _ _ _ _ _ HM.out).mono ?_; rintro e w1 ⟨rfl, hb⟩; have q10 := keep_cell hb (show W.drew.cell? _ = _ from k10)) | fail)
  all_goals
    go_wp2
    go_ret2
    exact ⟨rfl, (below_drew_ hb0).trans (hb.mono hs0)⟩
/-- block g is turned, all else lies as it lay -/
def Upd (g : Nat) (o : Obj) (w w' : World) : Prop := w'.heap[g]? = some o ∧ w'.os = w.os ∧ w'.tape = w.tape ∧ w'.output = w.output ∧ w.heap.size ≤ w'.heap.size ∧ ∀ k, k < w.heap.size → k ≠ g → w'.heap[k]? = w.heap[k]?
theorem upd_set2 {g : Nat} {s0 s1 s2 : Int} {s3 s4 s5 : Bool} {s6 s7 : Int} {w W : World} (p1 p2 : Int) (hb : Below w.heap.size w W) (hg : W.heap[g]? = some (.cells #[.int .i64 s0, .int .i64 s1, .int .i64 s2, .bool s3, .bool s4, .bool s5, .int .u32 s6, .int .u32 s7] 29 (0, 0))) :
    Upd g (.cells #[.int .i64 s0, .int .i64 s1, .int .i64 s2, .bool s3, .bool s4, .bool s5, .int .u32 p1, .int .u32 p2] 29 (0, 0)) w ((W.setCell ⟨g, 6, none⟩ (.int .u32 p1)).setCell ⟨g, 7, none⟩ (.int .u32 p2)) := by
  have h1 : BoxN W g 29 #[.int .i64 s0, .int .i64 s1, .int .i64 s2, .bool s3, .bool s4, .bool s5, .int .u32 s6, .int .u32 s7] := hg
  have ok := set_all g 29 [(6, .int .u32 p1), (7, .int .u32 p2)] W _ h1
  exact ⟨ok.box, hb.os, hb.tape, hb.output, Nat.le_trans hb.size (Nat.le_of_eq ok.size.symm), fun k hk hne => (ok.block k hne).trans (hb.block k hk)⟩
theorem below_undrew {n : Nat} {a b : World} (h : Below n a.drew b) : Below n a b := ⟨h.os, h.tape, h.output, h.size, h.block⟩
theorem upd_drew {g : Nat} {o : Obj} {w W : World} (h : Upd g o w W) : Upd g o w W.drew := h
set_option maxRecDepth 100000 in
set_option maxHeartbeats 4000000 in
theorem take_yes (g : Nat) (s0 s1 s2 : Int) (s3 s4 s5 : Bool) (s6 s7 : Int) (c0 c1 c2 : Int) (c3 : Bool) (a2 : Int) (w : World)
    (hg : w.heap[g]? = some (.cells #[.int .i64 s0, .int .i64 s1, .int .i64 s2, .bool s3, .bool s4, .bool s5, .int .u32 s6, .int .u32 s7] 29 (0, 0)))
    (hm : cpuif_If_May.f s0 s1 s2 s3 s4 s5 s6 s7 c0 c1 c2 c3 = some true) (hn : (c2 != a2) = false) (k : Int) (hk : cpuif_If_mask.f s0 s1 s2 s3 s4 s5 s6 s7 a2 = some k) (p1 p2 : Int) (hp : ladder_Ladder_Push.f s6 s7 a2 (Go.bits .and .i64 c1 k) = some (p1, p2)) :
    Calls Try.prog 10 #[.pointer (some ⟨g, 0, none⟩), .agg #[.int .i64 c0, .int .i64 c1, .int .i64 c2, .bool c3], .int .i64 a2] w fun e w' => e = .returned (.tuple #[.int .i64 c0, .bool true]) ∧ Upd g (.cells #[.int .i64 s0, .int .i64 s1, .int .i64 s2, .bool s3, .bool s4, .bool s5, .int .u32 p1, .int .u32 p2] 29 (0, 0)) w w' := by
  have HM := Lib.hid hm
  have HK_ := Lib.hid hk
  have HP_ := Lib.hid hp
  clear hm hk hp
  have hb0 : Below w.heap.size w (w.alloc (.cells #[.int .i64 c0, .int .i64 c1, .int .i64 c2, .bool c3] 31)) := (Below.refl _ w).alloc (Nat.le_refl _) _
  have hs0 : w.heap.size ≤ (w.alloc (.cells #[.int .i64 c0, .int .i64 c1, .int .i64 c2, .bool c3] 31)).heap.size := hb0.size
  have hgl : g < w.heap.size := (Array.getElem?_eq_some_iff.1 hg).1
  have hg0 : (w.alloc (.cells #[.int .i64 c0, .int .i64 c1, .int .i64 c2, .bool c3] 31)).heap[g]? = some (.cells #[.int .i64 s0, .int .i64 s1, .int .i64 s2, .bool s3, .bool s4, .bool s5, .int .u32 s6, .int .u32 s7] 29 (0, 0)) := blk_alloc hg _
  have k0 : (w.alloc (.cells #[.int .i64 c0, .int .i64 c1, .int .i64 c2, .bool c3] 31)).cell? ⟨g, 0, none⟩ = some (.int .i64 s0) := (blk_cell (blk_alloc hg _) 0).trans rfl
  have k1 : (w.alloc (.cells #[.int .i64 c0, .int .i64 c1, .int .i64 c2, .bool c3] 31)).cell? ⟨g, 1, none⟩ = some (.int .i64 s1) := (blk_cell (blk_alloc hg _) 1).trans rfl
  have k2 : (w.alloc (.cells #[.int .i64 c0, .int .i64 c1, .int .i64 c2, .bool c3] 31)).cell? ⟨g, 2, none⟩ = some (.int .i64 s2) := (blk_cell (blk_alloc hg _) 2).trans rfl
  have k3 : (w.alloc (.cells #[.int .i64 c0, .int .i64 c1, .int .i64 c2, .bool c3] 31)).cell? ⟨g, 3, none⟩ = some (.bool s3) := (blk_cell (blk_alloc hg _) 3).trans rfl
  have k4 : (w.alloc (.cells #[.int .i64 c0, .int .i64 c1, .int .i64 c2, .bool c3] 31)).cell? ⟨g, 4, none⟩ = some (.bool s4) := (blk_cell (blk_alloc hg _) 4).trans rfl
  have k5 : (w.alloc (.cells #[.int .i64 c0, .int .i64 c1, .int .i64 c2, .bool c3] 31)).cell? ⟨g, 5, none⟩ = some (.bool s5) := (blk_cell (blk_alloc hg _) 5).trans rfl
  have k6 : (w.alloc (.cells #[.int .i64 c0, .int .i64 c1, .int .i64 c2, .bool c3] 31)).cell? ⟨g, 6, none⟩ = some (.int .u32 s6) := (blk_cell (blk_alloc hg _) 6).trans rfl
  have k7 : (w.alloc (.cells #[.int .i64 c0, .int .i64 c1, .int .i64 c2, .bool c3] 31)).cell? ⟨g, 7, none⟩ = some (.int .u32 s7) := (blk_cell (blk_alloc hg _) 7).trans rfl
  have k8 : (w.alloc (.cells #[.int .i64 c0, .int .i64 c1, .int .i64 c2, .bool c3] 31)).cell? ⟨w.heap.size, 0, none⟩ = some (.int .i64 c0) := (BoxN.new w 31 _).cell (i := 0) rfl
  have k9 : (w.alloc (.cells #[.int .i64 c0, .int .i64 c1, .int .i64 c2, .bool c3] 31)).cell? ⟨w.heap.size, 1, none⟩ = some (.int .i64 c1) := (BoxN.new w 31 _).cell (i := 1) rfl
  have k10 : (w.alloc (.cells #[.int .i64 c0, .int .i64 c1, .int .i64 c2, .bool c3] 31)).cell? ⟨w.heap.size, 2, none⟩ = some (.int .i64 c2) := (BoxN.new w 31 _).cell (i := 2) rfl
  have k11 : (w.alloc (.cells #[.int .i64 c0, .int .i64 c1, .int .i64 c2, .bool c3] 31)).cell? ⟨w.heap.size, 3, none⟩ = some (.bool c3) := (BoxN.new w 31 _).cell (i := 3) rfl
  go_enter Try.func10, Try.ntmps10
  go_wp2_with fail
  generalize w.alloc (.cells #[.int .i64 c0, .int .i64 c1, .int .i64 c2, .bool c3] 31) = W at *
  have hbW : Below w.heap.size w W.drew := below_drew_ hb0
  have hgW : W.drew.heap[g]? = some (.cells #[.int .i64 s0, .int .i64 s1, .int .i64 s2, .bool s3, .bool s4, .bool s5, .int .u32 s6, .int .u32 s7] 29 (0, 0)) := hg0
  (first | go_region_held3 (fun w' => w'.cell? ⟨g, 0, none⟩ = some (.int .i64 s0) ∧ w'.cell? ⟨g, 1, none⟩ = some (.int .i64 s1) ∧ w'.cell? ⟨g, 2, none⟩ = some (.int .i64 s2) ∧ w'.cell? ⟨g, 3, none⟩ = some (.bool s3) ∧ w'.cell? ⟨g, 4, none⟩ = some (.bool s4) ∧ w'.cell? ⟨g, 5, none⟩ = some (.bool s5) ∧ w'.cell? ⟨g, 6, none⟩ = some (.int .u32 s6) ∧ w'.cell? ⟨g, 7, none⟩ = some (.int .u32 s7) ∧ w'.cell? ⟨w.heap.size, 0, none⟩ = some (.int .i64 c0) ∧ w'.cell? ⟨w.heap.size, 1, none⟩ = some (.int .i64 c1) ∧ w'.cell? ⟨w.heap.size, 2, none⟩ = some (.int .i64 c2) ∧ w'.cell? ⟨w.heap.size, 3, none⟩ = some (.bool c3) ∧ w'.heap[g]? = some (.cells #[.int .i64 s0, .int .i64 s1, .int .i64 s2, .bool s3, .bool s4, .bool s5, .int .u32 s6, .int .u32 s7] 29 (0, 0)) ∧ Below w.heap.size w w')
    (first | go_keep | (go_split_ands; refine ⟨?_, ?_, ?_, ?_, ?_, ?_, ?_, ?_, ?_, ?_, ?_, ?_, ?_, ?_⟩ <;> first | exact keep_cell hb (by assumption) | exact (hb.block g (Nat.lt_of_lt_of_le hgl (Below.size (by assumption)))).trans (by assumption) | exact Below.trans (by assumption) (hb.mono (Below.size (by assumption)))))
    ((go_at_call 13; refine (cpuif_If_May.calls _ _ _ _ _ _ _ _ _ _ _ _ _ _ HM.out).mono ?_; rintro e w1 ⟨rfl, hb⟩)) | fail)
  go_split_ands
  have q0 : w1.cell? ⟨g, 0, none⟩ = some (.int .i64 s0) := by assumption
  have q1 : w1.cell? ⟨g, 1, none⟩ = some (.int .i64 s1) := by assumption
  have q2 : w1.cell? ⟨g, 2, none⟩ = some (.int .i64 s2) := by assumption
  have q3 : w1.cell? ⟨g, 3, none⟩ = some (.bool s3) := by assumption
  have q4 : w1.cell? ⟨g, 4, none⟩ = some (.bool s4) := by assumption
  have q5 : w1.cell? ⟨g, 5, none⟩ = some (.bool s5) := by assumption
  have q6 : w1.cell? ⟨g, 6, none⟩ = some (.int .u32 s6) := by assumption
  have q7 : w1.cell? ⟨g, 7, none⟩ = some (.int .u32 s7) := by assumption
  have q8 : w1.cell? ⟨w.heap.size, 0, none⟩ = some (.int .i64 c0) := by assumption
  have q9 : w1.cell? ⟨w.heap.size, 1, none⟩ = some (.int .i64 c1) := by assumption
  have q10 : w1.cell? ⟨w.heap.size, 2, none⟩ = some (.int .i64 c2) := by assumption
  have q11 : w1.cell? ⟨w.heap.size, 3, none⟩ = some (.bool c3) := by assumption
  have hb1 : Below w.heap.size w w1 := by assumption
  have hg1 : w1.heap[g]? = some (.cells #[.int .i64 s0, .int .i64 s1, .int .i64 s2, .bool s3, .bool s4, .bool s5, .int .u32 s6, .int .u32 s7] 29 (0, 0)) := by assumption
  have HG := Lib.hid hg1
  have HB1 := Lib.hid hb1
  have hne1 : ¬ (w.heap.size = g) := by omega
  have hne2 : ¬ (g = w.heap.size) := by omega
  go_wp2_with fail
  (first | go_region_with (first | (go_at_call 32; refine (cpuif_If_mask.calls _ _ _ _ _ _ _ _ _ _ _ HK_.out).mono ?_; rintro e w2 ⟨rfl, hb2⟩; have r0 := keep_cell hb2 q0; have r1 := keep_cell hb2 q1; have r2 := keep_cell hb2 q2; have r3 := keep_cell hb2 q3; have r4 := keep_cell hb2 q4; have r5 := keep_cell hb2 q5; have r6 := keep_cell hb2 q6; have r7 := keep_cell hb2 q7; have r8 := keep_cell hb2 q8; have r9 := keep_cell hb2 q9; have r10 := keep_cell hb2 q10; have r11 := keep_cell hb2 q11) | (go_at_call 31; refine (ladder_Ladder_Push.calls _ _ _ _ _ _ _ HP_.out).mono ?_; rintro e w3 ⟨rfl, hb3⟩; have z6 := keep_cell hb3 r6; have z7 := keep_cell hb3 r7; have z8 := keep_cell hb3 r8; have HG3 := Lib.hid ((hb3.block g (Nat.lt_of_lt_of_le hgl (Nat.le_trans HB1.out.size hb2.size))).trans ((hb2.block g (Nat.lt_of_lt_of_le hgl HB1.out.size)).trans HG.out)); have zf6 := blk_frozen HG3.out 6; have zf7 := blk_frozen HG3.out 7; have HB3 := Lib.hid ((HB1.out.trans (by first | exact hb2.mono HB1.out.size | exact below_undrew (hb2.mono HB1.out.size))).trans (by first | exact hb3.mono (Nat.le_trans HB1.out.size hb2.size) | exact below_undrew (hb3.mono (Nat.le_trans HB1.out.size hb2.size)))))) | fail)
  all_goals
    go_wp2
    go_ret2
    exact ⟨rfl, by first | exact upd_set2 p1 p2 HB3.out HG3.out | exact upd_drew (upd_set2 p1 p2 HB3.out HG3.out) | exact upd_set2 (W := w3.drew) p1 p2 (below_drew_ HB3.out) HG3.out⟩
end Go.Proofs.Ytpjenhojldcmiaa.IAll
