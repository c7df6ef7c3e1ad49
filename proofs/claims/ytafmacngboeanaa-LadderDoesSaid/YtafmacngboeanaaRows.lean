/-
  No cell of these rows narrows 'for every input' (looked for: loops, veiled, ifaces, maps, wideKeys, modest, calm, conditions, laid).
  DERIVED. THE GIVEN ROWS OF THIS SEAT. 6 by the template 'for every input the law returns true; each argument reads behind the call as it read before'; 0 by the template 'total and deterministic' (their statements: YtafmacngboeanaaTotals.lean).
  GIVEN WITH THE SEED: the statements are not yours to turn. If you find one false, say at which input.
  Laid BY PROGRAM, IN A SANDBOX (cutbox-rows.mjs): the forced cells as the released guide's own fill.sh prints them over the translation c8eb183ec4d4c15f… (all of the seat's roots in one cut). By AI agents, Wed Nov 11 2026. No macro, syntax, notation, axiom, sorry.
-/
import Derived.Test.YtafmacngboeanaaChecked
import GoSem.Claim
import GoSem.ClaimJoined
import GoSem.ClaimMapViews
import Derived.JoinedTies
import Derived.KernelRfl
namespace Go.Proofs.Ytafmacngboeanaa
/- THE CELL 'sum', in the pinned program and in every row, IS THE sha256 OF THE DUMP (.gsa) THAT YtafmacngboeanaaProg.lean LOADS. Nothing in Lean hashes anything: it is a label: what it is worth is what the hold of that sum in a sandbox is worth. -/
noncomputable def Try.pinned : Pinned := { name := "ytafmacngboeanaa", sum := "c8eb183ec4d4c15f3fca666bfb312b0f2fb43a46e03dcfb806432fc7e29004fb", checked := Try.checked }
namespace Rows
def none {H : Type} : Left H := { results := [], args := [] }

/-- 'crierlaw08.LadderBack': WHATEVER THE INPUT: true; the input reads as it did. -/
def ladderBackSpec : ChangeSpec := { name := "ladderBack", fn := fun _ => fun
  | [d1, d2, d3, d4] => { results := [.lit (.bool true)], args := [d1, d2, d3, d4] }
  | _ => none }
def ladderBackRow : OpenClaim := { program := "ytafmacngboeanaa", sum := "c8eb183ec4d4c15f3fca666bfb312b0f2fb43a46e03dcfb806432fc7e29004fb", func := "crier/crierlaw08.LadderBack", spec := "ladderBack", unfollowed := true, recurses := true, apart := false }
def LadderBackSaid : Prop := ladderBackRow.holds Try.pinned (OpenSpec.ofChange ladderBackSpec)

/-- ITS FALSE NEIGHBOUR: 'it returns false'. Refute it at one input. -/
def ladderBackWrong : ChangeSpec := { name := "ladderBack", fn := fun _ => fun
  | [d1, d2, d3, d4] => { results := [.lit (.bool false)], args := [d1, d2, d3, d4] }
  | _ => none }
def LadderBackWrongFalsely : Prop := ladderBackRow.holds Try.pinned (OpenSpec.ofChange ladderBackWrong)

/-- 'crierlaw08.LadderEmpties': WHATEVER THE INPUT: true; the input reads as it did. -/
def ladderEmptiesSpec : ChangeSpec := { name := "ladderEmpties", fn := fun _ => fun
  | [d1, d2] => { results := [.lit (.bool true)], args := [d1, d2] }
  | _ => none }
def ladderEmptiesRow : OpenClaim := { program := "ytafmacngboeanaa", sum := "c8eb183ec4d4c15f3fca666bfb312b0f2fb43a46e03dcfb806432fc7e29004fb", func := "crier/crierlaw08.LadderEmpties", spec := "ladderEmpties", unfollowed := true, recurses := true, apart := false }
def LadderEmptiesSaid : Prop := ladderEmptiesRow.holds Try.pinned (OpenSpec.ofChange ladderEmptiesSpec)

/-- ITS FALSE NEIGHBOUR: 'it returns false'. Refute it at one input. -/
def ladderEmptiesWrong : ChangeSpec := { name := "ladderEmpties", fn := fun _ => fun
  | [d1, d2] => { results := [.lit (.bool false)], args := [d1, d2] }
  | _ => none }
def LadderEmptiesWrongFalsely : Prop := ladderEmptiesRow.holds Try.pinned (OpenSpec.ofChange ladderEmptiesWrong)

/-- 'crierlaw08.LadderOrder': WHATEVER THE INPUT: true; the input reads as it did. -/
def ladderOrderSpec : ChangeSpec := { name := "ladderOrder", fn := fun _ => fun
  | [d] => { results := [.lit (.bool true)], args := [d] }
  | _ => none }
def ladderOrderRow : OpenClaim := { program := "ytafmacngboeanaa", sum := "c8eb183ec4d4c15f3fca666bfb312b0f2fb43a46e03dcfb806432fc7e29004fb", func := "crier/crierlaw08.LadderOrder", spec := "ladderOrder", unfollowed := true, recurses := true, apart := false }
def LadderOrderSaid : Prop := ladderOrderRow.holds Try.pinned (OpenSpec.ofChange ladderOrderSpec)

/-- ITS FALSE NEIGHBOUR: 'it returns false'. Refute it at one input. -/
def ladderOrderWrong : ChangeSpec := { name := "ladderOrder", fn := fun _ => fun
  | [d] => { results := [.lit (.bool false)], args := [d] }
  | _ => none }
def LadderOrderWrongFalsely : Prop := ladderOrderRow.holds Try.pinned (OpenSpec.ofChange ladderOrderWrong)

/-- 'crierlaw08.LadderDoes': WHATEVER THE INPUT: true; the input reads as it did. -/
def ladderDoesSpec : ChangeSpec := { name := "ladderDoes", fn := fun _ => fun
  | [d1, d2, d3] => { results := [.lit (.bool true)], args := [d1, d2, d3] }
  | _ => none }
def ladderDoesRow : OpenClaim := { program := "ytafmacngboeanaa", sum := "c8eb183ec4d4c15f3fca666bfb312b0f2fb43a46e03dcfb806432fc7e29004fb", func := "crier/crierlaw08.LadderDoes", spec := "ladderDoes", unfollowed := true, recurses := true, apart := false }
def LadderDoesSaid : Prop := ladderDoesRow.holds Try.pinned (OpenSpec.ofChange ladderDoesSpec)

/-- ITS FALSE NEIGHBOUR: 'it returns false'. Refute it at one input. -/
def ladderDoesWrong : ChangeSpec := { name := "ladderDoes", fn := fun _ => fun
  | [d1, d2, d3] => { results := [.lit (.bool false)], args := [d1, d2, d3] }
  | _ => none }
def LadderDoesWrongFalsely : Prop := ladderDoesRow.holds Try.pinned (OpenSpec.ofChange ladderDoesWrong)

/-- 'crierlaw08.LadderClears': WHATEVER THE INPUT: true; the input reads as it did. -/
def ladderClearsSpec : ChangeSpec := { name := "ladderClears", fn := fun _ => fun
  | [d1, d2, d3, d4] => { results := [.lit (.bool true)], args := [d1, d2, d3, d4] }
  | _ => none }
def ladderClearsRow : OpenClaim := { program := "ytafmacngboeanaa", sum := "c8eb183ec4d4c15f3fca666bfb312b0f2fb43a46e03dcfb806432fc7e29004fb", func := "crier/crierlaw08.LadderClears", spec := "ladderClears", unfollowed := true, recurses := true, apart := false }
def LadderClearsSaid : Prop := ladderClearsRow.holds Try.pinned (OpenSpec.ofChange ladderClearsSpec)

/-- ITS FALSE NEIGHBOUR: 'it returns false'. Refute it at one input. -/
def ladderClearsWrong : ChangeSpec := { name := "ladderClears", fn := fun _ => fun
  | [d1, d2, d3, d4] => { results := [.lit (.bool false)], args := [d1, d2, d3, d4] }
  | _ => none }
def LadderClearsWrongFalsely : Prop := ladderClearsRow.holds Try.pinned (OpenSpec.ofChange ladderClearsWrong)

/-- 'crierlaw08.LadderGroups': WHATEVER THE INPUT: true; the input reads as it did. -/
def ladderGroupsSpec : ChangeSpec := { name := "ladderGroups", fn := fun _ => fun
  | [d1, d2, d3] => { results := [.lit (.bool true)], args := [d1, d2, d3] }
  | _ => none }
def ladderGroupsRow : OpenClaim := { program := "ytafmacngboeanaa", sum := "c8eb183ec4d4c15f3fca666bfb312b0f2fb43a46e03dcfb806432fc7e29004fb", func := "crier/crierlaw08.LadderGroups", spec := "ladderGroups", unfollowed := true, recurses := true, apart := false }
def LadderGroupsSaid : Prop := ladderGroupsRow.holds Try.pinned (OpenSpec.ofChange ladderGroupsSpec)

/-- ITS FALSE NEIGHBOUR: 'it returns false'. Refute it at one input. -/
def ladderGroupsWrong : ChangeSpec := { name := "ladderGroups", fn := fun _ => fun
  | [d1, d2, d3] => { results := [.lit (.bool false)], args := [d1, d2, d3] }
  | _ => none }
def LadderGroupsWrongFalsely : Prop := ladderGroupsRow.holds Try.pinned (OpenSpec.ofChange ladderGroupsWrong)

/- THE SECOND FORM. 'bulk': how many values and letters a reading holds, each counted each time it is reached (what is shared counts as often as it is met; a slice's spare places count too). A statement '..UptoSaid' is the law's where the arguments, and the package variables that the reading takes, are together of bulk at most 1048576: NARROWER than '..Said'. Prove '..Said' where nothing that the law and all that it calls make is longer than what came in: it says more and counts as full. Else prove '..UptoSaid'. A law counts once. -/
mutual
def uptoBulk {H : Type} : DataW H → Nat
  | .lit (.string bytes) => bytes.length + 1
  | .lit _ => 1
  | .nil => 1
  | .ptr d => uptoBulk d + 1
  | .slice elems spare => uptoBulkAll elems + uptoBulkAll spare + 1
  | .agg parts => uptoBulkAll parts + 1
  | .iface _ d => uptoBulk d + 1
  | .map entries => uptoBulkEntries entries + 1
  | .held _ => 1
def uptoBulkAll {H : Type} : List (DataW H) → Nat
  | [] => 0
  | d :: r => uptoBulk d + uptoBulkAll r
def uptoBulkEntries {H : Type} : List (Lit × DataW H) → Nat
  | [] => 0
  | x :: r => uptoBulkEntry x + uptoBulkEntries r
def uptoBulkEntry {H : Type} : Lit × DataW H → Nat
  | (.string bytes, d) => bytes.length + uptoBulk d + 1
  | (_, d) => uptoBulk d + 1
 end
def uptoSmall : (H : Type) → List (DataW H) → Bool := fun _ ds => decide (uptoBulkAll ds ≤ 1048576)
def OpenSpec.upto (s : _root_.Go.ChangeSpec) : _root_.Go.OpenSpec := { _root_.Go.OpenSpec.ofChange s with cond := some uptoSmall }

/-- 'crierlaw08.LadderBack', WHERE WHAT IT READS IS OF BULK AT MOST 1048576: true; the input reads as it did. -/
def ladderBackUptoRow : OpenClaim := { program := "ytafmacngboeanaa", sum := "c8eb183ec4d4c15f3fca666bfb312b0f2fb43a46e03dcfb806432fc7e29004fb", func := "crier/crierlaw08.LadderBack", spec := "ladderBack", unfollowed := true, recurses := true, apart := false, narrowed := true }
def LadderBackUptoSaid : Prop := ladderBackUptoRow.holds Try.pinned (OpenSpec.upto ladderBackSpec)

/-- 'crierlaw08.LadderEmpties', WHERE WHAT IT READS IS OF BULK AT MOST 1048576: true; the input reads as it did. -/
def ladderEmptiesUptoRow : OpenClaim := { program := "ytafmacngboeanaa", sum := "c8eb183ec4d4c15f3fca666bfb312b0f2fb43a46e03dcfb806432fc7e29004fb", func := "crier/crierlaw08.LadderEmpties", spec := "ladderEmpties", unfollowed := true, recurses := true, apart := false, narrowed := true }
def LadderEmptiesUptoSaid : Prop := ladderEmptiesUptoRow.holds Try.pinned (OpenSpec.upto ladderEmptiesSpec)

/-- 'crierlaw08.LadderOrder', WHERE WHAT IT READS IS OF BULK AT MOST 1048576: true; the input reads as it did. -/
def ladderOrderUptoRow : OpenClaim := { program := "ytafmacngboeanaa", sum := "c8eb183ec4d4c15f3fca666bfb312b0f2fb43a46e03dcfb806432fc7e29004fb", func := "crier/crierlaw08.LadderOrder", spec := "ladderOrder", unfollowed := true, recurses := true, apart := false, narrowed := true }
def LadderOrderUptoSaid : Prop := ladderOrderUptoRow.holds Try.pinned (OpenSpec.upto ladderOrderSpec)

/-- 'crierlaw08.LadderDoes', WHERE WHAT IT READS IS OF BULK AT MOST 1048576: true; the input reads as it did. -/
def ladderDoesUptoRow : OpenClaim := { program := "ytafmacngboeanaa", sum := "c8eb183ec4d4c15f3fca666bfb312b0f2fb43a46e03dcfb806432fc7e29004fb", func := "crier/crierlaw08.LadderDoes", spec := "ladderDoes", unfollowed := true, recurses := true, apart := false, narrowed := true }
def LadderDoesUptoSaid : Prop := ladderDoesUptoRow.holds Try.pinned (OpenSpec.upto ladderDoesSpec)

/-- 'crierlaw08.LadderClears', WHERE WHAT IT READS IS OF BULK AT MOST 1048576: true; the input reads as it did. -/
def ladderClearsUptoRow : OpenClaim := { program := "ytafmacngboeanaa", sum := "c8eb183ec4d4c15f3fca666bfb312b0f2fb43a46e03dcfb806432fc7e29004fb", func := "crier/crierlaw08.LadderClears", spec := "ladderClears", unfollowed := true, recurses := true, apart := false, narrowed := true }
def LadderClearsUptoSaid : Prop := ladderClearsUptoRow.holds Try.pinned (OpenSpec.upto ladderClearsSpec)

/-- 'crierlaw08.LadderGroups', WHERE WHAT IT READS IS OF BULK AT MOST 1048576: true; the input reads as it did. -/
def ladderGroupsUptoRow : OpenClaim := { program := "ytafmacngboeanaa", sum := "c8eb183ec4d4c15f3fca666bfb312b0f2fb43a46e03dcfb806432fc7e29004fb", func := "crier/crierlaw08.LadderGroups", spec := "ladderGroups", unfollowed := true, recurses := true, apart := false, narrowed := true }
def LadderGroupsUptoSaid : Prop := ladderGroupsUptoRow.holds Try.pinned (OpenSpec.upto ladderGroupsSpec)

end Rows
end Go.Proofs.Ytafmacngboeanaa
