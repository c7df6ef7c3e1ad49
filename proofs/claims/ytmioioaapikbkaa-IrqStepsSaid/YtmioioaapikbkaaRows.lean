/-
  No cell of these rows narrows 'for every input' (looked for: loops, veiled, ifaces, maps, wideKeys, modest, calm, conditions, laid).
  DERIVED. THE GIVEN ROWS OF THIS SEAT. 6 by the template 'for every input the law returns true; each argument reads behind the call as it read before'; 0 by the template 'total and deterministic' (their statements: YtmioioaapikbkaaTotals.lean).
  GIVEN WITH THE SEED: the statements are not yours to turn. If you find one false, say at which input.
  Laid BY PROGRAM, IN A SANDBOX (cutbox-rows.mjs): the forced cells as the released guide's own fill.sh prints them over the translation 2ef54e03c179da8f… (all of the seat's roots in one cut). By AI agents, Wed Nov 11 2026. No macro, syntax, notation, axiom, sorry.
-/
import Derived.Test.YtmioioaapikbkaaChecked
import GoSem.Claim
import GoSem.ClaimJoined
import GoSem.ClaimMapViews
import Derived.JoinedTies
import Derived.KernelRfl
namespace Go.Proofs.Ytmioioaapikbkaa
/- THE CELL 'sum', in the pinned program and in every row, IS THE sha256 OF THE DUMP (.gsa) THAT YtmioioaapikbkaaProg.lean LOADS. Nothing in Lean hashes anything: it is a label: what it is worth is what the hold of that sum in a sandbox is worth. -/
noncomputable def Try.pinned : Pinned := { name := "ytmioioaapikbkaa", sum := "2ef54e03c179da8f36b4bf6c3a62beb0772a2aa6ac321e1343f76d19e65be27c", checked := Try.checked }
namespace Rows
def none {H : Type} : Left H := { results := [], args := [] }

/-- 'crierlaw07.IrqOnce': WHATEVER THE INPUT: true; the input reads as it did. -/
def irqOnceSpec : ChangeSpec := { name := "irqOnce", fn := fun _ => fun
  | [d1, d2] => { results := [.lit (.bool true)], args := [d1, d2] }
  | _ => none }
def irqOnceRow : OpenClaim := { program := "ytmioioaapikbkaa", sum := "2ef54e03c179da8f36b4bf6c3a62beb0772a2aa6ac321e1343f76d19e65be27c", func := "crier/crierlaw07.IrqOnce", spec := "irqOnce", apart := false }
def IrqOnceSaid : Prop := irqOnceRow.holds Try.pinned (OpenSpec.ofChange irqOnceSpec)

/-- ITS FALSE NEIGHBOUR: 'it returns false'. Refute it at one input. -/
def irqOnceWrong : ChangeSpec := { name := "irqOnce", fn := fun _ => fun
  | [d1, d2] => { results := [.lit (.bool false)], args := [d1, d2] }
  | _ => none }
def IrqOnceWrongFalsely : Prop := irqOnceRow.holds Try.pinned (OpenSpec.ofChange irqOnceWrong)

/-- 'crierlaw07.IrqLevel': WHATEVER THE INPUT: true; the input reads as it did. -/
def irqLevelSpec : ChangeSpec := { name := "irqLevel", fn := fun _ => fun
  | [d1, d2] => { results := [.lit (.bool true)], args := [d1, d2] }
  | _ => none }
def irqLevelRow : OpenClaim := { program := "ytmioioaapikbkaa", sum := "2ef54e03c179da8f36b4bf6c3a62beb0772a2aa6ac321e1343f76d19e65be27c", func := "crier/crierlaw07.IrqLevel", spec := "irqLevel", apart := false }
def IrqLevelSaid : Prop := irqLevelRow.holds Try.pinned (OpenSpec.ofChange irqLevelSpec)

/-- ITS FALSE NEIGHBOUR: 'it returns false'. Refute it at one input. -/
def irqLevelWrong : ChangeSpec := { name := "irqLevel", fn := fun _ => fun
  | [d1, d2] => { results := [.lit (.bool false)], args := [d1, d2] }
  | _ => none }
def IrqLevelWrongFalsely : Prop := irqLevelRow.holds Try.pinned (OpenSpec.ofChange irqLevelWrong)

/-- 'crierlaw07.IrqTaken': WHATEVER THE INPUT: true; the input reads as it did. -/
def irqTakenSpec : ChangeSpec := { name := "irqTaken", fn := fun _ => fun
  | [d1, d2] => { results := [.lit (.bool true)], args := [d1, d2] }
  | _ => none }
def irqTakenRow : OpenClaim := { program := "ytmioioaapikbkaa", sum := "2ef54e03c179da8f36b4bf6c3a62beb0772a2aa6ac321e1343f76d19e65be27c", func := "crier/crierlaw07.IrqTaken", spec := "irqTaken", apart := false }
def IrqTakenSaid : Prop := irqTakenRow.holds Try.pinned (OpenSpec.ofChange irqTakenSpec)

/-- ITS FALSE NEIGHBOUR: 'it returns false'. Refute it at one input. -/
def irqTakenWrong : ChangeSpec := { name := "irqTaken", fn := fun _ => fun
  | [d1, d2] => { results := [.lit (.bool false)], args := [d1, d2] }
  | _ => none }
def IrqTakenWrongFalsely : Prop := irqTakenRow.holds Try.pinned (OpenSpec.ofChange irqTakenWrong)

/-- 'crierlaw07.IrqOdd': WHATEVER THE INPUT: true; the input reads as it did. -/
def irqOddSpec : ChangeSpec := { name := "irqOdd", fn := fun _ => fun
  | [d1, d2] => { results := [.lit (.bool true)], args := [d1, d2] }
  | _ => none }
def irqOddRow : OpenClaim := { program := "ytmioioaapikbkaa", sum := "2ef54e03c179da8f36b4bf6c3a62beb0772a2aa6ac321e1343f76d19e65be27c", func := "crier/crierlaw07.IrqOdd", spec := "irqOdd", apart := false }
def IrqOddSaid : Prop := irqOddRow.holds Try.pinned (OpenSpec.ofChange irqOddSpec)

/-- ITS FALSE NEIGHBOUR: 'it returns false'. Refute it at one input. -/
def irqOddWrong : ChangeSpec := { name := "irqOdd", fn := fun _ => fun
  | [d1, d2] => { results := [.lit (.bool false)], args := [d1, d2] }
  | _ => none }
def IrqOddWrongFalsely : Prop := irqOddRow.holds Try.pinned (OpenSpec.ofChange irqOddWrong)

/-- 'crierlaw07.IrqTexts': WHATEVER THE INPUT: true; the input reads as it did. -/
def irqTextsSpec : ChangeSpec := { name := "irqTexts", fn := fun _ => fun
  | [d1, d2, d3] => { results := [.lit (.bool true)], args := [d1, d2, d3] }
  | _ => none }
def irqTextsRow : OpenClaim := { program := "ytmioioaapikbkaa", sum := "2ef54e03c179da8f36b4bf6c3a62beb0772a2aa6ac321e1343f76d19e65be27c", func := "crier/crierlaw07.IrqTexts", spec := "irqTexts", apart := false }
def IrqTextsSaid : Prop := irqTextsRow.holds Try.pinned (OpenSpec.ofChange irqTextsSpec)

/-- ITS FALSE NEIGHBOUR: 'it returns false'. Refute it at one input. -/
def irqTextsWrong : ChangeSpec := { name := "irqTexts", fn := fun _ => fun
  | [d1, d2, d3] => { results := [.lit (.bool false)], args := [d1, d2, d3] }
  | _ => none }
def IrqTextsWrongFalsely : Prop := irqTextsRow.holds Try.pinned (OpenSpec.ofChange irqTextsWrong)

/-- 'crierlaw07.IrqSteps': WHATEVER THE INPUT: true; the input reads as it did. -/
def irqStepsSpec : ChangeSpec := { name := "irqSteps", fn := fun _ => fun
  | [d1, d2] => { results := [.lit (.bool true)], args := [d1, d2] }
  | _ => none }
def irqStepsRow : OpenClaim := { program := "ytmioioaapikbkaa", sum := "2ef54e03c179da8f36b4bf6c3a62beb0772a2aa6ac321e1343f76d19e65be27c", func := "crier/crierlaw07.IrqSteps", spec := "irqSteps", unfollowed := true, recurses := true, apart := false }
def IrqStepsSaid : Prop := irqStepsRow.holds Try.pinned (OpenSpec.ofChange irqStepsSpec)

/-- ITS FALSE NEIGHBOUR: 'it returns false'. Refute it at one input. -/
def irqStepsWrong : ChangeSpec := { name := "irqSteps", fn := fun _ => fun
  | [d1, d2] => { results := [.lit (.bool false)], args := [d1, d2] }
  | _ => none }
def IrqStepsWrongFalsely : Prop := irqStepsRow.holds Try.pinned (OpenSpec.ofChange irqStepsWrong)

/- THE SECOND FORM. 'bulk': how many values and letters a reading holds, each counted each time it is reached (what is shared counts as often as it is met; a slice's spare places count too). A statement '..UptoSaid' is the law's where the arguments, and the package variables that the reading takes, are together of bulk at most 1048576: NARROWER than '..Said'. Prove '..Said' where nothing that the law and all that it calls make is longer than what came in: it says more and counts as full. Else prove '..UptoSaid'. A law counts once. -/
mutual
def uptoBulk {H : Type} : DataW H → Nat
  | .lit (.string bytes) => bytes.length + 1
  | .lit _ => 1
  | .nil => 1
  | .ptr d => uptoBulk d + 1
  | .slice elems spare => uptoBulkAll elems + uptoBulkAll spare + 1
  | .agg parts => uptoBulkAll parts + 1
  | .iface _ d => uptoBulk d + 1
  | .map entries => uptoBulkEntries entries + 1
  | .held _ => 1
def uptoBulkAll {H : Type} : List (DataW H) → Nat
  | [] => 0
  | d :: r => uptoBulk d + uptoBulkAll r
def uptoBulkEntries {H : Type} : List (Lit × DataW H) → Nat
  | [] => 0
  | x :: r => uptoBulkEntry x + uptoBulkEntries r
def uptoBulkEntry {H : Type} : Lit × DataW H → Nat
  | (.string bytes, d) => bytes.length + uptoBulk d + 1
  | (_, d) => uptoBulk d + 1
 end
def uptoSmall : (H : Type) → List (DataW H) → Bool := fun _ ds => decide (uptoBulkAll ds ≤ 1048576)
def OpenSpec.upto (s : _root_.Go.ChangeSpec) : _root_.Go.OpenSpec := { _root_.Go.OpenSpec.ofChange s with cond := some uptoSmall }

/-- 'crierlaw07.IrqOnce', WHERE WHAT IT READS IS OF BULK AT MOST 1048576: true; the input reads as it did. -/
def irqOnceUptoRow : OpenClaim := { program := "ytmioioaapikbkaa", sum := "2ef54e03c179da8f36b4bf6c3a62beb0772a2aa6ac321e1343f76d19e65be27c", func := "crier/crierlaw07.IrqOnce", spec := "irqOnce", apart := false, narrowed := true }
def IrqOnceUptoSaid : Prop := irqOnceUptoRow.holds Try.pinned (OpenSpec.upto irqOnceSpec)

/-- 'crierlaw07.IrqLevel', WHERE WHAT IT READS IS OF BULK AT MOST 1048576: true; the input reads as it did. -/
def irqLevelUptoRow : OpenClaim := { program := "ytmioioaapikbkaa", sum := "2ef54e03c179da8f36b4bf6c3a62beb0772a2aa6ac321e1343f76d19e65be27c", func := "crier/crierlaw07.IrqLevel", spec := "irqLevel", apart := false, narrowed := true }
def IrqLevelUptoSaid : Prop := irqLevelUptoRow.holds Try.pinned (OpenSpec.upto irqLevelSpec)

/-- 'crierlaw07.IrqTaken', WHERE WHAT IT READS IS OF BULK AT MOST 1048576: true; the input reads as it did. -/
def irqTakenUptoRow : OpenClaim := { program := "ytmioioaapikbkaa", sum := "2ef54e03c179da8f36b4bf6c3a62beb0772a2aa6ac321e1343f76d19e65be27c", func := "crier/crierlaw07.IrqTaken", spec := "irqTaken", apart := false, narrowed := true }
def IrqTakenUptoSaid : Prop := irqTakenUptoRow.holds Try.pinned (OpenSpec.upto irqTakenSpec)

/-- 'crierlaw07.IrqOdd', WHERE WHAT IT READS IS OF BULK AT MOST 1048576: true; the input reads as it did. -/
def irqOddUptoRow : OpenClaim := { program := "ytmioioaapikbkaa", sum := "2ef54e03c179da8f36b4bf6c3a62beb0772a2aa6ac321e1343f76d19e65be27c", func := "crier/crierlaw07.IrqOdd", spec := "irqOdd", apart := false, narrowed := true }
def IrqOddUptoSaid : Prop := irqOddUptoRow.holds Try.pinned (OpenSpec.upto irqOddSpec)

/-- 'crierlaw07.IrqTexts', WHERE WHAT IT READS IS OF BULK AT MOST 1048576: true; the input reads as it did. -/
def irqTextsUptoRow : OpenClaim := { program := "ytmioioaapikbkaa", sum := "2ef54e03c179da8f36b4bf6c3a62beb0772a2aa6ac321e1343f76d19e65be27c", func := "crier/crierlaw07.IrqTexts", spec := "irqTexts", apart := false, narrowed := true }
def IrqTextsUptoSaid : Prop := irqTextsUptoRow.holds Try.pinned (OpenSpec.upto irqTextsSpec)

/-- 'crierlaw07.IrqSteps', WHERE WHAT IT READS IS OF BULK AT MOST 1048576: true; the input reads as it did. -/
def irqStepsUptoRow : OpenClaim := { program := "ytmioioaapikbkaa", sum := "2ef54e03c179da8f36b4bf6c3a62beb0772a2aa6ac321e1343f76d19e65be27c", func := "crier/crierlaw07.IrqSteps", spec := "irqSteps", unfollowed := true, recurses := true, apart := false, narrowed := true }
def IrqStepsUptoSaid : Prop := irqStepsUptoRow.holds Try.pinned (OpenSpec.upto irqStepsSpec)

end Rows
end Go.Proofs.Ytmioioaapikbkaa
