/-
  No cell of these rows narrows 'for every input' (looked for: loops, veiled, ifaces, maps, wideKeys, modest, calm, conditions, laid).
  DERIVED. THE GIVEN ROWS OF THIS SEAT. 6 by the template 'for every input the law returns true; each argument reads behind the call as it read before'; 0 by the template 'total and deterministic' (their statements: YtpjenhojldcmiaaTotals.lean).
  GIVEN WITH THE SEED: the statements are not yours to turn. If you find one false, say at which input.
  Laid BY PROGRAM, IN A SANDBOX (cutbox-rows.mjs): the forced cells as the released guide's own fill.sh prints them over the translation ce9a98def3a19c0b… (all of the seat's roots in one cut). By AI agents, Wed Nov 11 2026. No macro, syntax, notation, axiom, sorry.
-/
import Derived.Test.YtpjenhojldcmiaaChecked
import GoSem.Claim
import GoSem.ClaimJoined
import GoSem.ClaimMapViews
import Derived.JoinedTies
import Derived.KernelRfl
namespace Go.Proofs.Ytpjenhojldcmiaa
/- THE CELL 'sum', in the pinned program and in every row, IS THE sha256 OF THE DUMP (.gsa) THAT YtpjenhojldcmiaaProg.lean LOADS. Nothing in Lean hashes anything: it is a label: what it is worth is what the hold of that sum in a sandbox is worth. -/
noncomputable def Try.pinned : Pinned := { name := "ytpjenhojldcmiaa", sum := "ce9a98def3a19c0b5687bb9759bf164423e2d9fe212a4fc1e51bda1735557181", checked := Try.checked }
namespace Rows
def none {H : Type} : Left H := { results := [], args := [] }

/-- 'crierlaw14.CpuifBack': WHATEVER THE INPUT: true; the input reads as it did. -/
def cpuifBackSpec : ChangeSpec := { name := "cpuifBack", fn := fun _ => fun
  | [d1, d2, d3] => { results := [.lit (.bool true)], args := [d1, d2, d3] }
  | _ => none }
def cpuifBackRow : OpenClaim := { program := "ytpjenhojldcmiaa", sum := "ce9a98def3a19c0b5687bb9759bf164423e2d9fe212a4fc1e51bda1735557181", func := "crier/crierlaw14.CpuifBack", spec := "cpuifBack", unfollowed := true, recurses := true, apart := false }
def CpuifBackSaid : Prop := cpuifBackRow.holds Try.pinned (OpenSpec.ofChange cpuifBackSpec)

/-- ITS FALSE NEIGHBOUR: 'it returns false'. Refute it at one input. -/
def cpuifBackWrong : ChangeSpec := { name := "cpuifBack", fn := fun _ => fun
  | [d1, d2, d3] => { results := [.lit (.bool false)], args := [d1, d2, d3] }
  | _ => none }
def CpuifBackWrongFalsely : Prop := cpuifBackRow.holds Try.pinned (OpenSpec.ofChange cpuifBackWrong)

/-- 'crierlaw14.CpuifSets': WHATEVER THE INPUT: true; the input reads as it did. -/
def cpuifSetsSpec : ChangeSpec := { name := "cpuifSets", fn := fun _ => fun
  | [d1, d2, d3, d4] => { results := [.lit (.bool true)], args := [d1, d2, d3, d4] }
  | _ => none }
def cpuifSetsRow : OpenClaim := { program := "ytpjenhojldcmiaa", sum := "ce9a98def3a19c0b5687bb9759bf164423e2d9fe212a4fc1e51bda1735557181", func := "crier/crierlaw14.CpuifSets", spec := "cpuifSets", unfollowed := true, recurses := true, apart := false }
def CpuifSetsSaid : Prop := cpuifSetsRow.holds Try.pinned (OpenSpec.ofChange cpuifSetsSpec)

/-- ITS FALSE NEIGHBOUR: 'it returns false'. Refute it at one input. -/
def cpuifSetsWrong : ChangeSpec := { name := "cpuifSets", fn := fun _ => fun
  | [d1, d2, d3, d4] => { results := [.lit (.bool false)], args := [d1, d2, d3, d4] }
  | _ => none }
def CpuifSetsWrongFalsely : Prop := cpuifSetsRow.holds Try.pinned (OpenSpec.ofChange cpuifSetsWrong)

/-- 'crierlaw14.CpuifHigher': WHATEVER THE INPUT: true; the input reads as it did. -/
def cpuifHigherSpec : ChangeSpec := { name := "cpuifHigher", fn := fun _ => fun
  | [d1, d2, d3, d4] => { results := [.lit (.bool true)], args := [d1, d2, d3, d4] }
  | _ => none }
def cpuifHigherRow : OpenClaim := { program := "ytpjenhojldcmiaa", sum := "ce9a98def3a19c0b5687bb9759bf164423e2d9fe212a4fc1e51bda1735557181", func := "crier/crierlaw14.CpuifHigher", spec := "cpuifHigher", unfollowed := true, recurses := true, apart := false }
def CpuifHigherSaid : Prop := cpuifHigherRow.holds Try.pinned (OpenSpec.ofChange cpuifHigherSpec)

/-- ITS FALSE NEIGHBOUR: 'it returns false'. Refute it at one input. -/
def cpuifHigherWrong : ChangeSpec := { name := "cpuifHigher", fn := fun _ => fun
  | [d1, d2, d3, d4] => { results := [.lit (.bool false)], args := [d1, d2, d3, d4] }
  | _ => none }
def CpuifHigherWrongFalsely : Prop := cpuifHigherRow.holds Try.pinned (OpenSpec.ofChange cpuifHigherWrong)

/-- 'crierlaw14.CpuifThrough': WHATEVER THE INPUT: true; the input reads as it did. -/
def cpuifThroughSpec : ChangeSpec := { name := "cpuifThrough", fn := fun _ => fun
  | [d1, d2] => { results := [.lit (.bool true)], args := [d1, d2] }
  | _ => none }
def cpuifThroughRow : OpenClaim := { program := "ytpjenhojldcmiaa", sum := "ce9a98def3a19c0b5687bb9759bf164423e2d9fe212a4fc1e51bda1735557181", func := "crier/crierlaw14.CpuifThrough", spec := "cpuifThrough", unfollowed := true, recurses := true, apart := false }
def CpuifThroughSaid : Prop := cpuifThroughRow.holds Try.pinned (OpenSpec.ofChange cpuifThroughSpec)

/-- ITS FALSE NEIGHBOUR: 'it returns false'. Refute it at one input. -/
def cpuifThroughWrong : ChangeSpec := { name := "cpuifThrough", fn := fun _ => fun
  | [d1, d2] => { results := [.lit (.bool false)], args := [d1, d2] }
  | _ => none }
def CpuifThroughWrongFalsely : Prop := cpuifThroughRow.holds Try.pinned (OpenSpec.ofChange cpuifThroughWrong)

/-- 'crierlaw14.CpuifGroups': WHATEVER THE INPUT: true; the input reads as it did. -/
def cpuifGroupsSpec : ChangeSpec := { name := "cpuifGroups", fn := fun _ => fun
  | [d1, d2, d3] => { results := [.lit (.bool true)], args := [d1, d2, d3] }
  | _ => none }
def cpuifGroupsRow : OpenClaim := { program := "ytpjenhojldcmiaa", sum := "ce9a98def3a19c0b5687bb9759bf164423e2d9fe212a4fc1e51bda1735557181", func := "crier/crierlaw14.CpuifGroups", spec := "cpuifGroups", unfollowed := true, recurses := true, apart := false }
def CpuifGroupsSaid : Prop := cpuifGroupsRow.holds Try.pinned (OpenSpec.ofChange cpuifGroupsSpec)

/-- ITS FALSE NEIGHBOUR: 'it returns false'. Refute it at one input. -/
def cpuifGroupsWrong : ChangeSpec := { name := "cpuifGroups", fn := fun _ => fun
  | [d1, d2, d3] => { results := [.lit (.bool false)], args := [d1, d2, d3] }
  | _ => none }
def CpuifGroupsWrongFalsely : Prop := cpuifGroupsRow.holds Try.pinned (OpenSpec.ofChange cpuifGroupsWrong)

/-- 'crierlaw14.CpuifDoes': WHATEVER THE INPUT: true; the input reads as it did. -/
def cpuifDoesSpec : ChangeSpec := { name := "cpuifDoes", fn := fun _ => fun
  | [d1, d2] => { results := [.lit (.bool true)], args := [d1, d2] }
  | _ => none }
def cpuifDoesRow : OpenClaim := { program := "ytpjenhojldcmiaa", sum := "ce9a98def3a19c0b5687bb9759bf164423e2d9fe212a4fc1e51bda1735557181", func := "crier/crierlaw14.CpuifDoes", spec := "cpuifDoes", unfollowed := true, recurses := true, apart := false }
def CpuifDoesSaid : Prop := cpuifDoesRow.holds Try.pinned (OpenSpec.ofChange cpuifDoesSpec)

/-- ITS FALSE NEIGHBOUR: 'it returns false'. Refute it at one input. -/
def cpuifDoesWrong : ChangeSpec := { name := "cpuifDoes", fn := fun _ => fun
  | [d1, d2] => { results := [.lit (.bool false)], args := [d1, d2] }
  | _ => none }
def CpuifDoesWrongFalsely : Prop := cpuifDoesRow.holds Try.pinned (OpenSpec.ofChange cpuifDoesWrong)

/- THE SECOND FORM. 'bulk': how many values and letters a reading holds, each counted each time it is reached (what is shared counts as often as it is met; a slice's spare places count too). A statement '..UptoSaid' is the law's where the arguments, and the package variables that the reading takes, are together of bulk at most 1048576: NARROWER than '..Said'. Prove '..Said' where nothing that the law and all that it calls make is longer than what came in: it says more and counts as full. Else prove '..UptoSaid'. A law counts once. -/
mutual
def uptoBulk {H : Type} : DataW H → Nat
  | .lit (.string bytes) => bytes.length + 1
  | .lit _ => 1
  | .nil => 1
  | .ptr d => uptoBulk d + 1
  | .slice elems spare => uptoBulkAll elems + uptoBulkAll spare + 1
  | .agg parts => uptoBulkAll parts + 1
  | .iface _ d => uptoBulk d + 1
  | .map entries => uptoBulkEntries entries + 1
  | .held _ => 1
def uptoBulkAll {H : Type} : List (DataW H) → Nat
  | [] => 0
  | d :: r => uptoBulk d + uptoBulkAll r
def uptoBulkEntries {H : Type} : List (Lit × DataW H) → Nat
  | [] => 0
  | x :: r => uptoBulkEntry x + uptoBulkEntries r
def uptoBulkEntry {H : Type} : Lit × DataW H → Nat
  | (.string bytes, d) => bytes.length + uptoBulk d + 1
  | (_, d) => uptoBulk d + 1
 end
def uptoSmall : (H : Type) → List (DataW H) → Bool := fun _ ds => decide (uptoBulkAll ds ≤ 1048576)
def OpenSpec.upto (s : _root_.Go.ChangeSpec) : _root_.Go.OpenSpec := { _root_.Go.OpenSpec.ofChange s with cond := some uptoSmall }

/-- 'crierlaw14.CpuifBack', WHERE WHAT IT READS IS OF BULK AT MOST 1048576: true; the input reads as it did. -/
def cpuifBackUptoRow : OpenClaim := { program := "ytpjenhojldcmiaa", sum := "ce9a98def3a19c0b5687bb9759bf164423e2d9fe212a4fc1e51bda1735557181", func := "crier/crierlaw14.CpuifBack", spec := "cpuifBack", unfollowed := true, recurses := true, apart := false, narrowed := true }
def CpuifBackUptoSaid : Prop := cpuifBackUptoRow.holds Try.pinned (OpenSpec.upto cpuifBackSpec)

/-- 'crierlaw14.CpuifSets', WHERE WHAT IT READS IS OF BULK AT MOST 1048576: true; the input reads as it did. -/
def cpuifSetsUptoRow : OpenClaim := { program := "ytpjenhojldcmiaa", sum := "ce9a98def3a19c0b5687bb9759bf164423e2d9fe212a4fc1e51bda1735557181", func := "crier/crierlaw14.CpuifSets", spec := "cpuifSets", unfollowed := true, recurses := true, apart := false, narrowed := true }
def CpuifSetsUptoSaid : Prop := cpuifSetsUptoRow.holds Try.pinned (OpenSpec.upto cpuifSetsSpec)

/-- 'crierlaw14.CpuifHigher', WHERE WHAT IT READS IS OF BULK AT MOST 1048576: true; the input reads as it did. -/
def cpuifHigherUptoRow : OpenClaim := { program := "ytpjenhojldcmiaa", sum := "ce9a98def3a19c0b5687bb9759bf164423e2d9fe212a4fc1e51bda1735557181", func := "crier/crierlaw14.CpuifHigher", spec := "cpuifHigher", unfollowed := true, recurses := true, apart := false, narrowed := true }
def CpuifHigherUptoSaid : Prop := cpuifHigherUptoRow.holds Try.pinned (OpenSpec.upto cpuifHigherSpec)

/-- 'crierlaw14.CpuifThrough', WHERE WHAT IT READS IS OF BULK AT MOST 1048576: true; the input reads as it did. -/
def cpuifThroughUptoRow : OpenClaim := { program := "ytpjenhojldcmiaa", sum := "ce9a98def3a19c0b5687bb9759bf164423e2d9fe212a4fc1e51bda1735557181", func := "crier/crierlaw14.CpuifThrough", spec := "cpuifThrough", unfollowed := true, recurses := true, apart := false, narrowed := true }
def CpuifThroughUptoSaid : Prop := cpuifThroughUptoRow.holds Try.pinned (OpenSpec.upto cpuifThroughSpec)

/-- 'crierlaw14.CpuifGroups', WHERE WHAT IT READS IS OF BULK AT MOST 1048576: true; the input reads as it did. -/
def cpuifGroupsUptoRow : OpenClaim := { program := "ytpjenhojldcmiaa", sum := "ce9a98def3a19c0b5687bb9759bf164423e2d9fe212a4fc1e51bda1735557181", func := "crier/crierlaw14.CpuifGroups", spec := "cpuifGroups", unfollowed := true, recurses := true, apart := false, narrowed := true }
def CpuifGroupsUptoSaid : Prop := cpuifGroupsUptoRow.holds Try.pinned (OpenSpec.upto cpuifGroupsSpec)

/-- 'crierlaw14.CpuifDoes', WHERE WHAT IT READS IS OF BULK AT MOST 1048576: true; the input reads as it did. -/
def cpuifDoesUptoRow : OpenClaim := { program := "ytpjenhojldcmiaa", sum := "ce9a98def3a19c0b5687bb9759bf164423e2d9fe212a4fc1e51bda1735557181", func := "crier/crierlaw14.CpuifDoes", spec := "cpuifDoes", unfollowed := true, recurses := true, apart := false, narrowed := true }
def CpuifDoesUptoSaid : Prop := cpuifDoesUptoRow.holds Try.pinned (OpenSpec.upto cpuifDoesSpec)

end Rows
end Go.Proofs.Ytpjenhojldcmiaa
