/-
  No cell of these rows narrows 'for every input' (looked for: loops, veiled, ifaces, maps, wideKeys, modest, calm, conditions, laid).
  DERIVED. THE GIVEN ROWS OF THIS SEAT. 6 by the template 'for every input the law returns true; each argument reads behind the call as it read before'; 0 by the template 'total and deterministic' (their statements: YtjkbocejdjnfiaaTotals.lean).
  GIVEN WITH THE SEED: the statements are not yours to turn. If you find one false, say at which input.
  Laid BY PROGRAM, IN A SANDBOX (cutbox-rows.mjs): the forced cells as the released guide's own fill.sh prints them over the translation cee520fdb5b12419… (all of the seat's roots in one cut). By AI agents, Wed Nov 11 2026. No macro, syntax, notation, axiom, sorry.
-/
import Derived.Test.YtjkbocejdjnfiaaChecked
import GoSem.Claim
import GoSem.ClaimJoined
import GoSem.ClaimMapViews
import Derived.JoinedTies
import Derived.KernelRfl
namespace Go.Proofs.Ytjkbocejdjnfiaa
/- THE CELL 'sum', in the pinned program and in every row, IS THE sha256 OF THE DUMP (.gsa) THAT YtjkbocejdjnfiaaProg.lean LOADS. Nothing in Lean hashes anything: it is a label: what it is worth is what the hold of that sum in a sandbox is worth. -/
noncomputable def Try.pinned : Pinned := { name := "ytjkbocejdjnfiaa", sum := "cee520fdb5b1241954776ce9b1b5bd1fff0208e6b2c1cd6f01cf9142253155ed", checked := Try.checked }
namespace Rows
def none {H : Type} : Left H := { results := [], args := [] }

/-- 'crierlaw05.BusFinds': WHATEVER THE INPUT: true; the input reads as it did. -/
def busFindsSpec : ChangeSpec := { name := "busFinds", fn := fun _ => fun
  | [d1, d2, d3] => { results := [.lit (.bool true)], args := [d1, d2, d3] }
  | _ => none }
def busFindsRow : OpenClaim := { program := "ytjkbocejdjnfiaa", sum := "cee520fdb5b1241954776ce9b1b5bd1fff0208e6b2c1cd6f01cf9142253155ed", func := "crier/crierlaw05.BusFinds", spec := "busFinds", unfollowed := true, recurses := true, apart := false }
def BusFindsSaid : Prop := busFindsRow.holds Try.pinned (OpenSpec.ofChange busFindsSpec)

/-- ITS FALSE NEIGHBOUR: 'it returns false'. Refute it at one input. -/
def busFindsWrong : ChangeSpec := { name := "busFinds", fn := fun _ => fun
  | [d1, d2, d3] => { results := [.lit (.bool false)], args := [d1, d2, d3] }
  | _ => none }
def BusFindsWrongFalsely : Prop := busFindsRow.holds Try.pinned (OpenSpec.ofChange busFindsWrong)

/-- 'crierlaw05.BusFrees': WHATEVER THE INPUT: true; the input reads as it did. -/
def busFreesSpec : ChangeSpec := { name := "busFrees", fn := fun _ => fun
  | [d1, d2, d3, d4] => { results := [.lit (.bool true)], args := [d1, d2, d3, d4] }
  | _ => none }
def busFreesRow : OpenClaim := { program := "ytjkbocejdjnfiaa", sum := "cee520fdb5b1241954776ce9b1b5bd1fff0208e6b2c1cd6f01cf9142253155ed", func := "crier/crierlaw05.BusFrees", spec := "busFrees", unfollowed := true, recurses := true, apart := false }
def BusFreesSaid : Prop := busFreesRow.holds Try.pinned (OpenSpec.ofChange busFreesSpec)

/-- ITS FALSE NEIGHBOUR: 'it returns false'. Refute it at one input. -/
def busFreesWrong : ChangeSpec := { name := "busFrees", fn := fun _ => fun
  | [d1, d2, d3, d4] => { results := [.lit (.bool false)], args := [d1, d2, d3, d4] }
  | _ => none }
def BusFreesWrongFalsely : Prop := busFreesRow.holds Try.pinned (OpenSpec.ofChange busFreesWrong)

/-- 'crierlaw05.BusAny': WHATEVER THE INPUT: true; the input reads as it did. -/
def busAnySpec : ChangeSpec := { name := "busAny", fn := fun _ => fun
  | [d1, d2] => { results := [.lit (.bool true)], args := [d1, d2] }
  | _ => none }
def busAnyRow : OpenClaim := { program := "ytjkbocejdjnfiaa", sum := "cee520fdb5b1241954776ce9b1b5bd1fff0208e6b2c1cd6f01cf9142253155ed", func := "crier/crierlaw05.BusAny", spec := "busAny", unfollowed := true, recurses := true, apart := false }
def BusAnySaid : Prop := busAnyRow.holds Try.pinned (OpenSpec.ofChange busAnySpec)

/-- ITS FALSE NEIGHBOUR: 'it returns false'. Refute it at one input. -/
def busAnyWrong : ChangeSpec := { name := "busAny", fn := fun _ => fun
  | [d1, d2] => { results := [.lit (.bool false)], args := [d1, d2] }
  | _ => none }
def BusAnyWrongFalsely : Prop := busAnyRow.holds Try.pinned (OpenSpec.ofChange busAnyWrong)

/-- 'crierlaw05.BusOne': WHATEVER THE INPUT: true; the input reads as it did. -/
def busOneSpec : ChangeSpec := { name := "busOne", fn := fun _ => fun
  | [d1, d2, d3] => { results := [.lit (.bool true)], args := [d1, d2, d3] }
  | _ => none }
def busOneRow : OpenClaim := { program := "ytjkbocejdjnfiaa", sum := "cee520fdb5b1241954776ce9b1b5bd1fff0208e6b2c1cd6f01cf9142253155ed", func := "crier/crierlaw05.BusOne", spec := "busOne", unfollowed := true, recurses := true, apart := false }
def BusOneSaid : Prop := busOneRow.holds Try.pinned (OpenSpec.ofChange busOneSpec)

/-- ITS FALSE NEIGHBOUR: 'it returns false'. Refute it at one input. -/
def busOneWrong : ChangeSpec := { name := "busOne", fn := fun _ => fun
  | [d1, d2, d3] => { results := [.lit (.bool false)], args := [d1, d2, d3] }
  | _ => none }
def BusOneWrongFalsely : Prop := busOneRow.holds Try.pinned (OpenSpec.ofChange busOneWrong)

/-- 'crierlaw05.BusParts': WHATEVER THE INPUT: true; the input reads as it did. -/
def busPartsSpec : ChangeSpec := { name := "busParts", fn := fun _ => fun
  | [d1, d2, d3] => { results := [.lit (.bool true)], args := [d1, d2, d3] }
  | _ => none }
def busPartsRow : OpenClaim := { program := "ytjkbocejdjnfiaa", sum := "cee520fdb5b1241954776ce9b1b5bd1fff0208e6b2c1cd6f01cf9142253155ed", func := "crier/crierlaw05.BusParts", spec := "busParts", unfollowed := true, recurses := true, apart := false }
def BusPartsSaid : Prop := busPartsRow.holds Try.pinned (OpenSpec.ofChange busPartsSpec)

/-- ITS FALSE NEIGHBOUR: 'it returns false'. Refute it at one input. -/
def busPartsWrong : ChangeSpec := { name := "busParts", fn := fun _ => fun
  | [d1, d2, d3] => { results := [.lit (.bool false)], args := [d1, d2, d3] }
  | _ => none }
def BusPartsWrongFalsely : Prop := busPartsRow.holds Try.pinned (OpenSpec.ofChange busPartsWrong)

/-- 'crierlaw05.BusRoom': WHATEVER THE INPUT: true; the input reads as it did. -/
def busRoomSpec : ChangeSpec := { name := "busRoom", fn := fun _ => fun
  | [d1, d2, d3, d4, d5] => { results := [.lit (.bool true)], args := [d1, d2, d3, d4, d5] }
  | _ => none }
def busRoomRow : OpenClaim := { program := "ytjkbocejdjnfiaa", sum := "cee520fdb5b1241954776ce9b1b5bd1fff0208e6b2c1cd6f01cf9142253155ed", func := "crier/crierlaw05.BusRoom", spec := "busRoom", unfollowed := true, recurses := true, apart := false }
def BusRoomSaid : Prop := busRoomRow.holds Try.pinned (OpenSpec.ofChange busRoomSpec)

/-- ITS FALSE NEIGHBOUR: 'it returns false'. Refute it at one input. -/
def busRoomWrong : ChangeSpec := { name := "busRoom", fn := fun _ => fun
  | [d1, d2, d3, d4, d5] => { results := [.lit (.bool false)], args := [d1, d2, d3, d4, d5] }
  | _ => none }
def BusRoomWrongFalsely : Prop := busRoomRow.holds Try.pinned (OpenSpec.ofChange busRoomWrong)

/- THE SECOND FORM. 'bulk': how many values and letters a reading holds, each counted each time it is reached (what is shared counts as often as it is met; a slice's spare places count too). A statement '..UptoSaid' is the law's where the arguments, and the package variables that the reading takes, are together of bulk at most 1048576: NARROWER than '..Said'. Prove '..Said' where nothing that the law and all that it calls make is longer than what came in: it says more and counts as full. Else prove '..UptoSaid'. A law counts once. -/
mutual
def uptoBulk {H : Type} : DataW H → Nat
  | .lit (.string bytes) => bytes.length + 1
  | .lit _ => 1
  | .nil => 1
  | .ptr d => uptoBulk d + 1
  | .slice elems spare => uptoBulkAll elems + uptoBulkAll spare + 1
  | .agg parts => uptoBulkAll parts + 1
  | .iface _ d => uptoBulk d + 1
  | .map entries => uptoBulkEntries entries + 1
  | .held _ => 1
def uptoBulkAll {H : Type} : List (DataW H) → Nat
  | [] => 0
  | d :: r => uptoBulk d + uptoBulkAll r
def uptoBulkEntries {H : Type} : List (Lit × DataW H) → Nat
  | [] => 0
  | x :: r => uptoBulkEntry x + uptoBulkEntries r
def uptoBulkEntry {H : Type} : Lit × DataW H → Nat
  | (.string bytes, d) => bytes.length + uptoBulk d + 1
  | (_, d) => uptoBulk d + 1
 end
def uptoSmall : (H : Type) → List (DataW H) → Bool := fun _ ds => decide (uptoBulkAll ds ≤ 1048576)
def OpenSpec.upto (s : _root_.Go.ChangeSpec) : _root_.Go.OpenSpec := { _root_.Go.OpenSpec.ofChange s with cond := some uptoSmall }

/-- 'crierlaw05.BusFinds', WHERE WHAT IT READS IS OF BULK AT MOST 1048576: true; the input reads as it did. -/
def busFindsUptoRow : OpenClaim := { program := "ytjkbocejdjnfiaa", sum := "cee520fdb5b1241954776ce9b1b5bd1fff0208e6b2c1cd6f01cf9142253155ed", func := "crier/crierlaw05.BusFinds", spec := "busFinds", unfollowed := true, recurses := true, apart := false, narrowed := true }
def BusFindsUptoSaid : Prop := busFindsUptoRow.holds Try.pinned (OpenSpec.upto busFindsSpec)

/-- 'crierlaw05.BusFrees', WHERE WHAT IT READS IS OF BULK AT MOST 1048576: true; the input reads as it did. -/
def busFreesUptoRow : OpenClaim := { program := "ytjkbocejdjnfiaa", sum := "cee520fdb5b1241954776ce9b1b5bd1fff0208e6b2c1cd6f01cf9142253155ed", func := "crier/crierlaw05.BusFrees", spec := "busFrees", unfollowed := true, recurses := true, apart := false, narrowed := true }
def BusFreesUptoSaid : Prop := busFreesUptoRow.holds Try.pinned (OpenSpec.upto busFreesSpec)

/-- 'crierlaw05.BusAny', WHERE WHAT IT READS IS OF BULK AT MOST 1048576: true; the input reads as it did. -/
def busAnyUptoRow : OpenClaim := { program := "ytjkbocejdjnfiaa", sum := "cee520fdb5b1241954776ce9b1b5bd1fff0208e6b2c1cd6f01cf9142253155ed", func := "crier/crierlaw05.BusAny", spec := "busAny", unfollowed := true, recurses := true, apart := false, narrowed := true }
def BusAnyUptoSaid : Prop := busAnyUptoRow.holds Try.pinned (OpenSpec.upto busAnySpec)

/-- 'crierlaw05.BusOne', WHERE WHAT IT READS IS OF BULK AT MOST 1048576: true; the input reads as it did. -/
def busOneUptoRow : OpenClaim := { program := "ytjkbocejdjnfiaa", sum := "cee520fdb5b1241954776ce9b1b5bd1fff0208e6b2c1cd6f01cf9142253155ed", func := "crier/crierlaw05.BusOne", spec := "busOne", unfollowed := true, recurses := true, apart := false, narrowed := true }
def BusOneUptoSaid : Prop := busOneUptoRow.holds Try.pinned (OpenSpec.upto busOneSpec)

/-- 'crierlaw05.BusParts', WHERE WHAT IT READS IS OF BULK AT MOST 1048576: true; the input reads as it did. -/
def busPartsUptoRow : OpenClaim := { program := "ytjkbocejdjnfiaa", sum := "cee520fdb5b1241954776ce9b1b5bd1fff0208e6b2c1cd6f01cf9142253155ed", func := "crier/crierlaw05.BusParts", spec := "busParts", unfollowed := true, recurses := true, apart := false, narrowed := true }
def BusPartsUptoSaid : Prop := busPartsUptoRow.holds Try.pinned (OpenSpec.upto busPartsSpec)

/-- 'crierlaw05.BusRoom', WHERE WHAT IT READS IS OF BULK AT MOST 1048576: true; the input reads as it did. -/
def busRoomUptoRow : OpenClaim := { program := "ytjkbocejdjnfiaa", sum := "cee520fdb5b1241954776ce9b1b5bd1fff0208e6b2c1cd6f01cf9142253155ed", func := "crier/crierlaw05.BusRoom", spec := "busRoom", unfollowed := true, recurses := true, apart := false, narrowed := true }
def BusRoomUptoSaid : Prop := busRoomUptoRow.holds Try.pinned (OpenSpec.upto busRoomSpec)

end Rows
end Go.Proofs.Ytjkbocejdjnfiaa
