/- Contracts by hand: what the document is told of an interface. -/
import Derived.Test.YtpjenhojldcmiaaCp11
namespace Go.Proofs.Ytpjenhojldcmiaa
open Go.RowKit Go.Shelf
attribute [local go_sem] Oper.semAt_some cell_row frozen_row isRow_setCell_eq rowAt_setCell_same rowAt_setCell_other isRow_alloc_eq rowAt_alloc rowAt_new isRow_setRow_eq rowAt_setRow_same rowAt_setRow_other isRow_drew rowAt_drew size_setRow_ Lb_size Lb_at blk_ptr aggOf_agg below_alloc_r below_setCell_r below_setRow_r below_drew_r le_add_r RC_size RC_get0 RC_at0 RC_set0 RC_get1 RC_at1 RC_set1 RC_get2 RC_at2 RC_set2 RC_get3 RC_at3 RC_set3 RC_get4 RC_at4 RC_set4 RC_get5 RC_at5 RC_set5 zeroF RC_ext RC_spl RC_one offv_ptr one_lad zero_lad allOne_nil allOne_cons Value.oneCell' zero_rc
attribute [local go_sem ↓] loadF storeF loadA storeA loadM storeM
def iof : Value → Int | .int _ a => a | _ => 0
def bof : Value → Bool | .bool a => a | _ => false
def vof (v : Value) (i : Nat) : Value := (aggOf v)[i]?.getD undef
def lf (v : Value) : Nat → Bool := fun i => bof (vof v i)
theorem iof_r {k : IntKind} {a : Int} : iof (.int k a) = a := rfl
theorem bof_r {a : Bool} : bof (.bool a) = a := rfl
theorem vof_0 {a b : Value} : vof (.agg #[a, b]) 0 = a := rfl
theorem vof_1 {a b : Value} : vof (.agg #[a, b]) 1 = b := rfl
set_option maxRecDepth 100000 in
theorem lf_L (f : Nat → Bool) : Lb (lf (.agg (Lb f))) = Lb f := by kernel_rfl
theorem RC_lf {m p0 p1 : Int} {o0 o1 sp : Bool} {f : Nat → Bool} : RC m p0 p1 o0 o1 sp (lf (.agg (Lb f))) = RC m p0 p1 o0 o1 sp f := by unfold RC; rw [lf_L]
set_option maxRecDepth 100000 in
theorem RC_fold {m p0 p1 : Int} {o0 o1 sp : Bool} {f : Nat → Bool} : Array.foldl (fun (cs : Array Value) (x : Value × Nat) => cs.setIfInBounds (6 + x.snd) x.fst) (RC m p0 p1 o0 o1 sp fun _ => false) (Lb f).zipIdx 0 64 = RC m p0 p1 o0 o1 sp f := by kernel_rfl
theorem RC_ne {m p0 p1 : Int} {o0 o1 sp : Bool} {f : Nat → Bool} : (RC m p0 p1 o0 o1 sp f = #[]) = False := propext ⟨fun h => by (have := congrArg Array.size h; rw [RC_size] at this; cases this), False.elim⟩
section
variable {w : World} {ρ : Operand → Value} {x0 x1 x2 x3 x4 : Operand} {dst : Option Tmp} {t0 : TypeId} {pos : String} {af : Array Edge} {gd : Option (Nat × Bool)}
set_option maxRecDepth 100000 in
theorem buildF (h0 : ρ x0 = .int .i64 (iof (ρ x0))) (h1 : ρ x1 = .agg #[.int .i64 (iof (vof (ρ x1) 0)), .int .i64 (iof (vof (ρ x1) 1))]) (h2 : ρ x2 = .agg #[.bool (bof (vof (ρ x2) 0)), .bool (bof (vof (ρ x2) 1))]) (h3 : ρ x3 = .bool (bof (ρ x3))) (h4 : ρ x4 = .agg (Lb (lf (ρ x4)))) :
    (execOp ρ { dst := dst, op := .build 61 #[(0, x0), (1, x1), (2, x2), (3, x3), (4, x4)], type := t0, pos := pos, after := af, guard := gd }).run Try.prog w =
      .ok (.value (.agg (RC (iof (ρ x0)) (iof (vof (ρ x1) 0)) (iof (vof (ρ x1) 1)) (bof (vof (ρ x2) 0)) (bof (vof (ρ x2) 1)) (bof (ρ x3)) (lf (ρ x4))))) w := by
  generalize iof (ρ x0) = m at *
  generalize iof (vof (ρ x1) 0) = p0 at *
  generalize iof (vof (ρ x1) 1) = p1 at *
  generalize bof (vof (ρ x2) 0) = o0 at *
  generalize bof (vof (ρ x2) 1) = o1 at *
  generalize bof (ρ x3) = sp at *
  generalize lf (ρ x4) = f at *
  go_simp
  rw [if_neg (by rw [RC_ne]; exact id), RC_fold]
  rfl
end
attribute [local go_sem ↓] buildF
attribute [local go_sem] iof_r bof_r vof_0 vof_1 lf_L RC_lf
theorem resT {w : World} {fn : Func} {p : Tmp} {cs : Array Value} {g : Nat} (h : fn.results = #[.cell p 61]) (tmps : Array Value) (hp : tmps.getD p undef = .pointer (some ⟨g, 0, none⟩)) (hg : Row w g cs) (hs : cs.size = 70) : (results fn tmps).run Try.prog w = .ok (.agg cs) w :=
  results_tmps h tmps w g cs (by first | exact hp | simpa using hp) hg Try.underlying61 rfl infoF hs
set_option maxRecDepth 100000 in
set_option maxHeartbeats 1000000 in
theorem Told_c (m p0 p1 : Int) (o0 o1 sp : Bool) (a b : Int) (ha : 0 ≤ a) (ha' : a ≤ 4294967295) (hb : 0 ≤ b) (hb' : b ≤ 4294967295) (w : World) : Calls Try.prog 21 #[.agg #[.int .i64 m, .int .i64 p0, .int .i64 p1, .bool o0, .bool o1, .bool sp, .int .u32 a, .int .u32 b]] w fun e w' => e = .returned (.agg (RC m p0 p1 o0 o1 sp (rb a b))) ∧ Below w.heap.size w w' := by
  have f5 := fun W : World => rOf_c a b ha ha' hb hb' W
  generalize hF : rb a b = f at *
  clear hF
  have F5 := Lib.hid f5
  clear f5 ha ha' hb hb'
  have hB0 : Below w.heap.size w ((w.alloc (.cells #[.int .i64 m, .int .i64 p0, .int .i64 p1, .bool o0, .bool o1, .bool sp, .int .u32 a, .int .u32 b] 29)).alloc (.cells (RC 0 0 0 false false false fun _ => false) 61)) := ((Below.refl _ w).alloc (Nat.le_refl _) _).alloc (by simp) _
  obtain ⟨R0, R0'⟩ : Row ((w.alloc (.cells #[.int .i64 m, .int .i64 p0, .int .i64 p1, .bool o0, .bool o1, .bool sp, .int .u32 a, .int .u32 b] 29)).alloc (.cells (RC 0 0 0 false false false fun _ => false) 61)) w.heap.size #[.int .i64 m, .int .i64 p0, .int .i64 p1, .bool o0, .bool o1, .bool sp, .int .u32 a, .int .u32 b] := Row.of ((BoxN.new w 29 #[.int .i64 m, .int .i64 p0, .int .i64 p1, .bool o0, .bool o1, .bool sp, .int .u32 a, .int .u32 b]).alloc _)
  obtain ⟨R1, R1'⟩ : Row ((w.alloc (.cells #[.int .i64 m, .int .i64 p0, .int .i64 p1, .bool o0, .bool o1, .bool sp, .int .u32 a, .int .u32 b] 29)).alloc (.cells (RC 0 0 0 false false false fun _ => false) 61)) (w.heap.size + 1) (RC 0 0 0 false false false fun _ => false) := (by (have this := BoxN.new (w.alloc (.cells #[.int .i64 m, .int .i64 p0, .int .i64 p1, .bool o0, .bool o1, .bool sp, .int .u32 a, .int .u32 b] 29)) 61 (RC 0 0 0 false false false fun _ => false); rw [World.size_alloc] at this; exact Row.of this))
  go_enter Try.func21, Try.ntmps21
  go_wp2_with fail
  generalize (w.alloc (.cells #[.int .i64 m, .int .i64 p0, .int .i64 p1, .bool o0, .bool o1, .bool sp, .int .u32 a, .int .u32 b] 29)).alloc (.cells (RC 0 0 0 false false false fun _ => false) 61) = W0 at *
  have R1s : (rowAt W0 (w.heap.size + 1)).size = 70 := by rw [R1']; exact RC_size
  clear R1'
  (first | go_region_held3 (fun w' => isRow w' w.heap.size ∧ rowAt w' w.heap.size = #[.int .i64 m, .int .i64 p0, .int .i64 p1, .bool o0, .bool o1, .bool sp, .int .u32 a, .int .u32 b] ∧ isRow w' (w.heap.size + 1) ∧ (rowAt w' (w.heap.size + 1)).size = 70 ∧ Below w.heap.size w w')
    (first | exact ⟨R0, R0', R1, R1s, below_drew0 hB0⟩ | (go_split_ands; exact ⟨rk1 (by assumption) hb, rk2 (by assumption) (by assumption) hb, rk1 (by assumption) hb, (congrArg Array.size (rk3 (by assumption) hb)).trans (by assumption), bk (by assumption) (Below.size (by assumption)) hb⟩) | (go_split_ands; refine ⟨?_, ?_, ?_, ?_, ?_⟩ <;> go_simp))
    ((go_at_call 40; ((with_reducible refine (F5.out _).mono ?_); rintro e w4 ⟨rfl, hb⟩))) | fail)
  go_split_ands
  go_wp2
  exact bodyPost_ret (resT rfl _ rfl (Row.setRow (isRow_setRow_eq.mp (by assumption))) RC_size) rfl ⟨rfl, by assumption⟩
end Go.Proofs.Ytpjenhojldcmiaa
