/-
  No cell of these rows narrows 'for every input' (looked for: loops, veiled, ifaces, maps, wideKeys, modest, calm, conditions, laid).
  DERIVED. THE GIVEN ROWS OF THIS SEAT. 7 by the template 'for every input the law returns true; each argument reads behind the call as it read before'; 0 by the template 'total and deterministic' (their statements: YtoldcfgedmjmfaaTotals.lean).
  GIVEN WITH THE SEED: the statements are not yours to turn. If you find one false, say at which input.
  Laid BY PROGRAM, IN A SANDBOX (cutbox-rows.mjs): the forced cells as the released guide's own fill.sh prints them over the translation 1a8b664c9a4eef55… (all of the seat's roots in one cut). By AI agents, Wed Nov 11 2026. No macro, syntax, notation, axiom, sorry.
-/
import Derived.Test.YtoldcfgedmjmfaaChecked
import GoSem.Claim
import GoSem.ClaimJoined
import GoSem.ClaimMapViews
import Derived.JoinedTies
import Derived.KernelRfl
namespace Go.Proofs.Ytoldcfgedmjmfaa
/- THE CELL 'sum', in the pinned program and in every row, IS THE sha256 OF THE DUMP (.gsa) THAT YtoldcfgedmjmfaaProg.lean LOADS. Nothing in Lean hashes anything: it is a label: what it is worth is what the hold of that sum in a sandbox is worth. -/
noncomputable def Try.pinned : Pinned := { name := "ytoldcfgedmjmfaa", sum := "1a8b664c9a4eef55429b0228d4c6a3ba5be8e8e97d967a6fe349630d6d13a7ee", checked := Try.checked }
namespace Rows
def none {H : Type} : Left H := { results := [], args := [] }

/-- 'crierlaw06.PrioOrder': WHATEVER THE INPUT: true; the input reads as it did. -/
def prioOrderSpec : ChangeSpec := { name := "prioOrder", fn := fun _ => fun
  | [d1, d2] => { results := [.lit (.bool true)], args := [d1, d2] }
  | _ => none }
def prioOrderRow : OpenClaim := { program := "ytoldcfgedmjmfaa", sum := "1a8b664c9a4eef55429b0228d4c6a3ba5be8e8e97d967a6fe349630d6d13a7ee", func := "crier/crierlaw06.PrioOrder", spec := "prioOrder", unfollowed := true, recurses := true, apart := false }
def PrioOrderSaid : Prop := prioOrderRow.holds Try.pinned (OpenSpec.ofChange prioOrderSpec)

/-- ITS FALSE NEIGHBOUR: 'it returns false'. Refute it at one input. -/
def prioOrderWrong : ChangeSpec := { name := "prioOrder", fn := fun _ => fun
  | [d1, d2] => { results := [.lit (.bool false)], args := [d1, d2] }
  | _ => none }
def PrioOrderWrongFalsely : Prop := prioOrderRow.holds Try.pinned (OpenSpec.ofChange prioOrderWrong)

/-- 'crierlaw06.PrioReal': WHATEVER THE INPUT: true; the input reads as it did. -/
def prioRealSpec : ChangeSpec := { name := "prioReal", fn := fun _ => fun
  | [d] => { results := [.lit (.bool true)], args := [d] }
  | _ => none }
def prioRealRow : OpenClaim := { program := "ytoldcfgedmjmfaa", sum := "1a8b664c9a4eef55429b0228d4c6a3ba5be8e8e97d967a6fe349630d6d13a7ee", func := "crier/crierlaw06.PrioReal", spec := "prioReal", unfollowed := true, recurses := true, apart := false }
def PrioRealSaid : Prop := prioRealRow.holds Try.pinned (OpenSpec.ofChange prioRealSpec)

/-- ITS FALSE NEIGHBOUR: 'it returns false'. Refute it at one input. -/
def prioRealWrong : ChangeSpec := { name := "prioReal", fn := fun _ => fun
  | [d] => { results := [.lit (.bool false)], args := [d] }
  | _ => none }
def PrioRealWrongFalsely : Prop := prioRealRow.holds Try.pinned (OpenSpec.ofChange prioRealWrong)

/-- 'crierlaw06.PrioParts': WHATEVER THE INPUT: true; the input reads as it did. -/
def prioPartsSpec : ChangeSpec := { name := "prioParts", fn := fun _ => fun
  | [d1, d2, d3] => { results := [.lit (.bool true)], args := [d1, d2, d3] }
  | _ => none }
def prioPartsRow : OpenClaim := { program := "ytoldcfgedmjmfaa", sum := "1a8b664c9a4eef55429b0228d4c6a3ba5be8e8e97d967a6fe349630d6d13a7ee", func := "crier/crierlaw06.PrioParts", spec := "prioParts", unfollowed := true, recurses := true, apart := false }
def PrioPartsSaid : Prop := prioPartsRow.holds Try.pinned (OpenSpec.ofChange prioPartsSpec)

/-- ITS FALSE NEIGHBOUR: 'it returns false'. Refute it at one input. -/
def prioPartsWrong : ChangeSpec := { name := "prioParts", fn := fun _ => fun
  | [d1, d2, d3] => { results := [.lit (.bool false)], args := [d1, d2, d3] }
  | _ => none }
def PrioPartsWrongFalsely : Prop := prioPartsRow.holds Try.pinned (OpenSpec.ofChange prioPartsWrong)

/-- 'crierlaw06.PrioHigher': WHATEVER THE INPUT: true; the input reads as it did. -/
def prioHigherSpec : ChangeSpec := { name := "prioHigher", fn := fun _ => fun
  | [d1, d2, d3, d4, d5, d6] => { results := [.lit (.bool true)], args := [d1, d2, d3, d4, d5, d6] }
  | _ => none }
def prioHigherRow : OpenClaim := { program := "ytoldcfgedmjmfaa", sum := "1a8b664c9a4eef55429b0228d4c6a3ba5be8e8e97d967a6fe349630d6d13a7ee", func := "crier/crierlaw06.PrioHigher", spec := "prioHigher", unfollowed := true, recurses := true, apart := false }
def PrioHigherSaid : Prop := prioHigherRow.holds Try.pinned (OpenSpec.ofChange prioHigherSpec)

/-- ITS FALSE NEIGHBOUR: 'it returns false'. Refute it at one input. -/
def prioHigherWrong : ChangeSpec := { name := "prioHigher", fn := fun _ => fun
  | [d1, d2, d3, d4, d5, d6] => { results := [.lit (.bool false)], args := [d1, d2, d3, d4, d5, d6] }
  | _ => none }
def PrioHigherWrongFalsely : Prop := prioHigherRow.holds Try.pinned (OpenSpec.ofChange prioHigherWrong)

/-- 'crierlaw06.PrioReckons': WHATEVER THE INPUT: true; the input reads as it did. -/
def prioReckonsSpec : ChangeSpec := { name := "prioReckons", fn := fun _ => fun
  | [d1, d2, d3, d4, d5] => { results := [.lit (.bool true)], args := [d1, d2, d3, d4, d5] }
  | _ => none }
def prioReckonsRow : OpenClaim := { program := "ytoldcfgedmjmfaa", sum := "1a8b664c9a4eef55429b0228d4c6a3ba5be8e8e97d967a6fe349630d6d13a7ee", func := "crier/crierlaw06.PrioReckons", spec := "prioReckons", unfollowed := true, recurses := true, apart := false }
def PrioReckonsSaid : Prop := prioReckonsRow.holds Try.pinned (OpenSpec.ofChange prioReckonsSpec)

/-- ITS FALSE NEIGHBOUR: 'it returns false'. Refute it at one input. -/
def prioReckonsWrong : ChangeSpec := { name := "prioReckons", fn := fun _ => fun
  | [d1, d2, d3, d4, d5] => { results := [.lit (.bool false)], args := [d1, d2, d3, d4, d5] }
  | _ => none }
def PrioReckonsWrongFalsely : Prop := prioReckonsRow.holds Try.pinned (OpenSpec.ofChange prioReckonsWrong)

/-- 'crierlaw06.PrioLevels': WHATEVER THE INPUT: true; the input reads as it did. -/
def prioLevelsSpec : ChangeSpec := { name := "prioLevels", fn := fun _ => fun
  | [d1, d2, d3, d4, d5] => { results := [.lit (.bool true)], args := [d1, d2, d3, d4, d5] }
  | _ => none }
def prioLevelsRow : OpenClaim := { program := "ytoldcfgedmjmfaa", sum := "1a8b664c9a4eef55429b0228d4c6a3ba5be8e8e97d967a6fe349630d6d13a7ee", func := "crier/crierlaw06.PrioLevels", spec := "prioLevels", unfollowed := true, recurses := true, apart := false }
def PrioLevelsSaid : Prop := prioLevelsRow.holds Try.pinned (OpenSpec.ofChange prioLevelsSpec)

/-- ITS FALSE NEIGHBOUR: 'it returns false'. Refute it at one input. -/
def prioLevelsWrong : ChangeSpec := { name := "prioLevels", fn := fun _ => fun
  | [d1, d2, d3, d4, d5] => { results := [.lit (.bool false)], args := [d1, d2, d3, d4, d5] }
  | _ => none }
def PrioLevelsWrongFalsely : Prop := prioLevelsRow.holds Try.pinned (OpenSpec.ofChange prioLevelsWrong)

/-- 'crierlaw06.PrioFirst': WHATEVER THE INPUT: true; the input reads as it did. -/
def prioFirstSpec : ChangeSpec := { name := "prioFirst", fn := fun _ => fun
  | [d1, d2] => { results := [.lit (.bool true)], args := [d1, d2] }
  | _ => none }
def prioFirstRow : OpenClaim := { program := "ytoldcfgedmjmfaa", sum := "1a8b664c9a4eef55429b0228d4c6a3ba5be8e8e97d967a6fe349630d6d13a7ee", func := "crier/crierlaw06.PrioFirst", spec := "prioFirst", unfollowed := true, recurses := true, apart := false }
def PrioFirstSaid : Prop := prioFirstRow.holds Try.pinned (OpenSpec.ofChange prioFirstSpec)

/-- ITS FALSE NEIGHBOUR: 'it returns false'. Refute it at one input. -/
def prioFirstWrong : ChangeSpec := { name := "prioFirst", fn := fun _ => fun
  | [d1, d2] => { results := [.lit (.bool false)], args := [d1, d2] }
  | _ => none }
def PrioFirstWrongFalsely : Prop := prioFirstRow.holds Try.pinned (OpenSpec.ofChange prioFirstWrong)

/- THE SECOND FORM. 'bulk': how many values and letters a reading holds, each counted each time it is reached (what is shared counts as often as it is met; a slice's spare places count too). A statement '..UptoSaid' is the law's where the arguments, and the package variables that the reading takes, are together of bulk at most 1048576: NARROWER than '..Said'. Prove '..Said' where nothing that the law and all that it calls make is longer than what came in: it says more and counts as full. Else prove '..UptoSaid'. A law counts once. -/
mutual
def uptoBulk {H : Type} : DataW H → Nat
  | .lit (.string bytes) => bytes.length + 1
  | .lit _ => 1
  | .nil => 1
  | .ptr d => uptoBulk d + 1
  | .slice elems spare => uptoBulkAll elems + uptoBulkAll spare + 1
  | .agg parts => uptoBulkAll parts + 1
  | .iface _ d => uptoBulk d + 1
  | .map entries => uptoBulkEntries entries + 1
  | .held _ => 1
def uptoBulkAll {H : Type} : List (DataW H) → Nat
  | [] => 0
  | d :: r => uptoBulk d + uptoBulkAll r
def uptoBulkEntries {H : Type} : List (Lit × DataW H) → Nat
  | [] => 0
  | x :: r => uptoBulkEntry x + uptoBulkEntries r
def uptoBulkEntry {H : Type} : Lit × DataW H → Nat
  | (.string bytes, d) => bytes.length + uptoBulk d + 1
  | (_, d) => uptoBulk d + 1
 end
def uptoSmall : (H : Type) → List (DataW H) → Bool := fun _ ds => decide (uptoBulkAll ds ≤ 1048576)
def OpenSpec.upto (s : _root_.Go.ChangeSpec) : _root_.Go.OpenSpec := { _root_.Go.OpenSpec.ofChange s with cond := some uptoSmall }

/-- 'crierlaw06.PrioOrder', WHERE WHAT IT READS IS OF BULK AT MOST 1048576: true; the input reads as it did. -/
def prioOrderUptoRow : OpenClaim := { program := "ytoldcfgedmjmfaa", sum := "1a8b664c9a4eef55429b0228d4c6a3ba5be8e8e97d967a6fe349630d6d13a7ee", func := "crier/crierlaw06.PrioOrder", spec := "prioOrder", unfollowed := true, recurses := true, apart := false, narrowed := true }
def PrioOrderUptoSaid : Prop := prioOrderUptoRow.holds Try.pinned (OpenSpec.upto prioOrderSpec)

/-- 'crierlaw06.PrioReal', WHERE WHAT IT READS IS OF BULK AT MOST 1048576: true; the input reads as it did. -/
def prioRealUptoRow : OpenClaim := { program := "ytoldcfgedmjmfaa", sum := "1a8b664c9a4eef55429b0228d4c6a3ba5be8e8e97d967a6fe349630d6d13a7ee", func := "crier/crierlaw06.PrioReal", spec := "prioReal", unfollowed := true, recurses := true, apart := false, narrowed := true }
def PrioRealUptoSaid : Prop := prioRealUptoRow.holds Try.pinned (OpenSpec.upto prioRealSpec)

/-- 'crierlaw06.PrioParts', WHERE WHAT IT READS IS OF BULK AT MOST 1048576: true; the input reads as it did. -/
def prioPartsUptoRow : OpenClaim := { program := "ytoldcfgedmjmfaa", sum := "1a8b664c9a4eef55429b0228d4c6a3ba5be8e8e97d967a6fe349630d6d13a7ee", func := "crier/crierlaw06.PrioParts", spec := "prioParts", unfollowed := true, recurses := true, apart := false, narrowed := true }
def PrioPartsUptoSaid : Prop := prioPartsUptoRow.holds Try.pinned (OpenSpec.upto prioPartsSpec)

/-- 'crierlaw06.PrioHigher', WHERE WHAT IT READS IS OF BULK AT MOST 1048576: true; the input reads as it did. -/
def prioHigherUptoRow : OpenClaim := { program := "ytoldcfgedmjmfaa", sum := "1a8b664c9a4eef55429b0228d4c6a3ba5be8e8e97d967a6fe349630d6d13a7ee", func := "crier/crierlaw06.PrioHigher", spec := "prioHigher", unfollowed := true, recurses := true, apart := false, narrowed := true }
def PrioHigherUptoSaid : Prop := prioHigherUptoRow.holds Try.pinned (OpenSpec.upto prioHigherSpec)

/-- 'crierlaw06.PrioReckons', WHERE WHAT IT READS IS OF BULK AT MOST 1048576: true; the input reads as it did. -/
def prioReckonsUptoRow : OpenClaim := { program := "ytoldcfgedmjmfaa", sum := "1a8b664c9a4eef55429b0228d4c6a3ba5be8e8e97d967a6fe349630d6d13a7ee", func := "crier/crierlaw06.PrioReckons", spec := "prioReckons", unfollowed := true, recurses := true, apart := false, narrowed := true }
def PrioReckonsUptoSaid : Prop := prioReckonsUptoRow.holds Try.pinned (OpenSpec.upto prioReckonsSpec)

/-- 'crierlaw06.PrioLevels', WHERE WHAT IT READS IS OF BULK AT MOST 1048576: true; the input reads as it did. -/
def prioLevelsUptoRow : OpenClaim := { program := "ytoldcfgedmjmfaa", sum := "1a8b664c9a4eef55429b0228d4c6a3ba5be8e8e97d967a6fe349630d6d13a7ee", func := "crier/crierlaw06.PrioLevels", spec := "prioLevels", unfollowed := true, recurses := true, apart := false, narrowed := true }
def PrioLevelsUptoSaid : Prop := prioLevelsUptoRow.holds Try.pinned (OpenSpec.upto prioLevelsSpec)

/-- 'crierlaw06.PrioFirst', WHERE WHAT IT READS IS OF BULK AT MOST 1048576: true; the input reads as it did. -/
def prioFirstUptoRow : OpenClaim := { program := "ytoldcfgedmjmfaa", sum := "1a8b664c9a4eef55429b0228d4c6a3ba5be8e8e97d967a6fe349630d6d13a7ee", func := "crier/crierlaw06.PrioFirst", spec := "prioFirst", unfollowed := true, recurses := true, apart := false, narrowed := true }
def PrioFirstUptoSaid : Prop := prioFirstUptoRow.holds Try.pinned (OpenSpec.upto prioFirstSpec)

end Rows
end Go.Proofs.Ytoldcfgedmjmfaa
