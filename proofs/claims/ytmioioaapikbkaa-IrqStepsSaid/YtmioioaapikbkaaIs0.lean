/- What the functions of the program and of the document compute of an interrupt's state, as contracts. -/
import Derived.Test.YtmioioaapikbkaaP0
import Derived.Test.YtmioioaapikbkaaIAllx10
import Derived.Test.YtmioioaapikbkaaIAllx12
import Derived.Test.YtmioioaapikbkaaIAllx13
import Derived.Test.YtmioioaapikbkaaIAllx14
import Derived.Test.YtmioioaapikbkaaNm
import Derived.Test.YtmioioaapikbkaaWEqStruct
namespace Go.Proofs.Ytmioioaapikbkaa.Is
open Go.RowKit Go.Shelf Go.Proofs.Ytmioioaapikbkaa.IAll Go.Proofs.Ytmioioaapikbkaa.Pure Go.Proofs.YtmioioaapikbkaaW.PrintWords Go.Proofs.YtmioioaapikbkaaW.PrintLast Go.Proofs.YtmioioaapikbkaaW.PrintMore
def En (s : St) : Array Value := #[.bool s.1, .bool s.2.1, .bool s.2.2.1, .bool s.2.2.2]
theorem En_size (s : St) : (En s).size = 4 := rfl
theorem En_one (s : St) : AllOne (En s) := by simp [En, AllOne, Value.oneCell']
theorem En_zero : #[.bool false, .bool false, .bool false, .bool false] = En (false, false, false, false) := rfl
/-- the document's step is the program's -/
theorem rstep_is (e l h a : Bool) (x : Int) : crierref07_Step.f 10 e l h a x = some (stp (e, l, h, a) x) := by
  by_cases hx : x < 1 ∨ x > 9
  · have h1 : ¬ x = 1 := by omega
    have h2 : ¬ x = 2 := by omega
    have h3 : ¬ x = 3 := by omega
    have h4 : ¬ x = 4 := by omega
    have h5 : ¬ x = 5 := by omega
    have h6 : ¬ x = 6 := by omega
    have h7 : ¬ x = 7 := by omega
    have h8 : ¬ x = 8 := by omega
    have h9 : ¬ x = 9 := by omega
    simp [crierref07_Step.f, crierref07_Step.j0, crierref07_Step.j1, crierref07_Step.j2, crierref07_Step.j3, crierref07_Step.j4, crierref07_Step.j5, crierref07_Step.j6, stp, irq_Step.f, h1, h2, h3, h4, h5, h6, h7, h8, h9]
  · obtain rfl | rfl | rfl | rfl | rfl | rfl | rfl | rfl | rfl : x = 1 ∨ x = 2 ∨ x = 3 ∨ x = 4 ∨ x = 5 ∨ x = 6 ∨ x = 7 ∨ x = 8 ∨ x = 9 := by omega
    all_goals (cases e <;> cases l <;> cases h <;> cases a <;> rfl)
theorem rpend_is (e l h a : Bool) : crierref07_Pending.f e l h a = some (pend (e, l, h, a)) := by cases e <;> cases l <;> cases h <;> cases a <;> rfl
theorem rready_is (e l h a : Bool) : crierref07_Ready.f e l h a = some (ready (e, l, h, a)) := by cases e <;> cases l <;> cases h <;> cases a <;> rfl
def phs (s : St) : Int := (if pend s then 1 else 0) + (if s.2.2.2 then 2 else 0)
theorem phase_is (e l h a : Bool) : irq_Phase.f e l h a = some (phs (e, l, h, a)) := by cases e <;> cases l <;> cases h <;> cases a <;> decide +kernel
theorem rphase_is (e l h a : Bool) : crierref07_Phase.f e l h a = some (phs (e, l, h, a)) := by cases e <;> cases l <;> cases h <;> cases a <;> decide +kernel
def txt (s : St) : ByteArray := ⟨(tx3 s.1 s.2.1 s.2.2.1 s.2.2.2).toArray⟩
theorem rtext_is (e l h a : Bool) : crierref07_Text.f 5 e l h a = some (txt (e, l, h, a)) := by cases e <;> cases l <;> cases h <;> cases a <;> decide +kernel
section
variable (s : St) (x : Int) (w : World)
theorem step_c : Calls Try.prog 11 #[.agg (En s), .int .i64 x] w fun e w' => e = .returned (.agg (En (stp s x))) ∧ Below w.heap.size w w' := irq_Step.calls _ _ _ _ x _ _ _ _ w (step_is _ _ _ _ x)
theorem rstep_c : Calls Try.prog 21 #[.agg (En s), .int .i64 x] w fun e w' => e = .returned (.agg (En (stp s x))) ∧ Below w.heap.size w w' := crierref07_Step.calls 10 _ _ _ _ x _ _ _ _ w (rstep_is _ _ _ _ x)
theorem pend_c : Calls Try.prog 13 #[.agg (En s)] w fun e w' => e = .returned (.bool (pend s)) ∧ Below w.heap.size w w' := irq_Pending.calls _ _ _ _ _ w (pend_is _ _ _ _)
theorem rpend_c : Calls Try.prog 22 #[.agg (En s)] w fun e w' => e = .returned (.bool (pend s)) ∧ Below w.heap.size w w' := crierref07_Pending.calls _ _ _ _ _ w (rpend_is _ _ _ _)
theorem ready_c : Calls Try.prog 12 #[.agg (En s)] w fun e w' => e = .returned (.bool (ready s)) ∧ Below w.heap.size w w' := irq_Ready.calls _ _ _ _ _ w (ready_is _ _ _ _)
theorem rready_c : Calls Try.prog 23 #[.agg (En s)] w fun e w' => e = .returned (.bool (ready s)) ∧ Below w.heap.size w w' := crierref07_Ready.calls _ _ _ _ _ w (rready_is _ _ _ _)
theorem phase_c : Calls Try.prog 14 #[.agg (En s)] w fun e w' => e = .returned (.int .i64 (phs s)) ∧ Below w.heap.size w w' := irq_Phase.calls _ _ _ _ _ w (phase_is _ _ _ _)
theorem rphase_c : Calls Try.prog 19 #[.agg (En s)] w fun e w' => e = .returned (.int .i64 (phs s)) ∧ Below w.heap.size w w' := crierref07_Phase.calls _ _ _ _ _ w (rphase_is _ _ _ _)
theorem text_c : Calls Try.prog 17 #[.agg (En s)] w fun e w' => e = .returned (.string (txt s)) ∧ Below w.heap.size w w' := irq_Text.calls _ _ _ _ _ w rfl
theorem rtext_c : Calls Try.prog 24 #[.agg (En s)] w fun e w' => e = .returned (.string (txt s)) ∧ Below w.heap.size w w' := crierref07_Text.calls 5 _ _ _ _ _ w (rtext_is _ _ _ _)
theorem awake_c : Calls Try.prog 9 #[] w fun e w' => e = .returned (.bool true) ∧ Below w.heap.size w w' := crierlaw07_awake.calls 20 _ w awake20
end
/-- '==' of two like states -/
theorem eqS (d : Nat) (w : World) (s t : St) : (Op.equalIn (d + 2) 23 (.agg (En s)) (.agg (En t))).run Try.prog w = .ok (s.1 == t.1 && (s.2.1 == t.2.1 && (s.2.2.1 == t.2.2.1 && (s.2.2.2 == t.2.2.2)))) w := by
  unfold En
  refine eqA_of Try.underlying23 (by kernel_rfl) ?_
  refine eqf_cons rfl (by go_simp; rfl) (by go_simp; rfl) (by go_simp) ?_
  refine eqf_cons rfl (by go_simp; rfl) (by go_simp; rfl) (by go_simp) ?_
  refine eqf_cons rfl (by go_simp; rfl) (by go_simp; rfl) (by go_simp) ?_
  exact eqf_last rfl (by go_simp; rfl) (by go_simp; rfl) (by go_simp)
theorem eqSS (d : Nat) (w : World) (s : St) : (Op.equalIn (d + 2) 23 (.agg (En s)) (.agg (En s))).run Try.prog w = .ok true w := by
  rw [eqS]; simp
theorem infoS : (Try.prog.info? 23).map (·.size) = some 4 := by kernel_rfl
section
variable {w : World} {ρ : Operand → Value} {x y : Operand} {dst : Option Tmp} {t0 : TypeId} {pos : String} {af : Array Edge} {gd : Option (Nat × Bool)}
theorem loadS (hx : ρ x = .pointer (some ⟨blk (ρ x), 0, none⟩)) (h : isRow w (blk (ρ x))) (hs : (rowAt w (blk (ρ x))).size = 4) : (execOp ρ { dst := dst, op := .load 23 x, type := t0, pos := pos, after := af, guard := gd }).run Try.prog w = .ok (.value (.agg (rowAt w (blk (ρ x))))) w := run_load_op Try.underlying23 rfl infoS hx h hs
theorem storeS (hx : ρ x = .pointer (some ⟨blk (ρ x), 0, none⟩)) (hy : ρ y = .agg (aggOf (ρ y))) (h : isRow w (blk (ρ x))) (hs : (rowAt w (blk (ρ x))).size = 4) (hc : (aggOf (ρ y)).size = 4) (h1 : AllOne (aggOf (ρ y))) : (execOp ρ { dst := dst, op := .store 23 x y, type := t0, pos := pos, after := af, guard := gd }).run Try.prog w = .ok .skip (w.setRow (blk (ρ x)) (aggOf (ρ y))) := run_store_op infoS hx hy h hs hc h1
theorem semAt_any (r : Option Nat) (ρ : Operand → Value) (o : Oper) (h : ∀ c, o.op ≠ .defer c) : Oper.semAt r ρ o = execOp ρ o := by
  cases r
  · exact Oper.semAt_none _ _
  · exact Oper.semAt_some _ _ _ h
theorem loadSg (r : Option Nat) (hx : ρ x = .pointer (some ⟨blk (ρ x), 0, none⟩)) (h : isRow w (blk (ρ x))) (hs : (rowAt w (blk (ρ x))).size = 4) : (Oper.semAt r ρ { dst := dst, op := .load 23 x, type := t0, pos := pos, after := af, guard := gd }).run Try.prog w = .ok (.value (.agg (rowAt w (blk (ρ x))))) w := by
  rw [semAt_any r _ _ (by intro c h; cases h)]; exact loadS hx h hs
theorem storeSg (r : Option Nat) (hx : ρ x = .pointer (some ⟨blk (ρ x), 0, none⟩)) (hy : ρ y = .agg (aggOf (ρ y))) (h : isRow w (blk (ρ x))) (hs : (rowAt w (blk (ρ x))).size = 4) (hc : (aggOf (ρ y)).size = 4) (h1 : AllOne (aggOf (ρ y))) : (Oper.semAt r ρ { dst := dst, op := .store 23 x y, type := t0, pos := pos, after := af, guard := gd }).run Try.prog w = .ok .skip (w.setRow (blk (ρ x)) (aggOf (ρ y))) := by
  rw [semAt_any r _ _ (by intro c h; cases h)]; exact storeS hx hy h hs hc h1
end
/-- the states behind the first k acts -/
def stk (s : St) (l : List Int) : Nat → St
  | 0 => s
  | k + 1 => stp (stk s l k) (rd l k)
/-- the states that are gone through -/
def sts (s : St) (l : List Int) : Nat → List St
  | 0 => []
  | k + 1 => sts s l k ++ [stk s l (k + 1)]
theorem sts_len (s : St) (l : List Int) : ∀ k, (sts s l k).length = k
  | 0 => rfl
  | k + 1 => by rw [sts, List.length_append, sts_len s l k]; rfl
theorem sts_pre (s : St) (l : List Int) (k : Nat) : ∀ d : Nat, ∃ post, sts s l (k + d) = sts s l k ++ post
  | 0 => ⟨[], by simp⟩
  | d + 1 => by
    obtain ⟨post, h⟩ := sts_pre s l k d
    exact ⟨_, by rw [Nat.add_succ, sts, h, List.append_assoc]⟩
theorem sts_at (s : St) (l : List Int) {k n : Nat} (hk : k < n) : ∃ post, sts s l n = sts s l k ++ stk s l (k + 1) :: post := by
  obtain ⟨post, e⟩ := sts_pre s l (k + 1) (n - (k + 1))
  rw [show k + 1 + (n - (k + 1)) = n by omega] at e
  exact ⟨post, by rw [e, sts, List.append_assoc]; rfl⟩
theorem sts_split (s : St) (l : List Int) {n : Nat} {pre post : List St} {x : St} (h : sts s l n = pre ++ x :: post) : pre.length < n ∧ x = stk s l (pre.length + 1) ∧ pre = sts s l pre.length := by
  have hl := congrArg List.length h
  rw [sts_len, List.length_append, List.length_cons] at hl
  have hk : pre.length < n := by omega
  obtain ⟨post', e⟩ := sts_at s l hk
  rw [h] at e
  obtain ⟨e1, e2⟩ := List.append_inj e (sts_len s l _).symm
  exact ⟨hk, (List.cons.inj e2).1, e1⟩
/-- the state behind some states gone through -/
def lst (s : St) (l : List Int) (pre : List St) : St := stk s l pre.length
end Go.Proofs.Ytmioioaapikbkaa.Is
