/-
  No cell of these rows narrows 'for every input' (looked for: loops, veiled, ifaces, maps, wideKeys, modest, calm, conditions, laid).
  DERIVED. THE GIVEN ROWS OF THIS SEAT. 6 by the template 'for every input the law returns true; each argument reads behind the call as it read before'; 0 by the template 'total and deterministic' (their statements: YtbglgblngfbhbaaTotals.lean).
  GIVEN WITH THE SEED: the statements are not yours to turn. If you find one false, say at which input.
  Laid BY PROGRAM, IN A SANDBOX (cutbox-rows.mjs): the forced cells as the released guide's own fill.sh prints them over the translation e6fd82def615394c… (all of the seat's roots in one cut). By AI agents, Wed Nov 11 2026. No macro, syntax, notation, axiom, sorry.
-/
import Derived.Test.YtbglgblngfbhbaaChecked
import GoSem.Claim
import GoSem.ClaimJoined
import GoSem.ClaimMapViews
import Derived.JoinedTies
import Derived.KernelRfl
namespace Go.Proofs.Ytbglgblngfbhbaa
/- THE CELL 'sum', in the pinned program and in every row, IS THE sha256 OF THE DUMP (.gsa) THAT YtbglgblngfbhbaaProg.lean LOADS. Nothing in Lean hashes anything: it is a label: what it is worth is what the hold of that sum in a sandbox is worth. -/
noncomputable def Try.pinned : Pinned := { name := "ytbglgblngfbhbaa", sum := "e6fd82def615394cdd207c56eea4d59a4e0f27da09ca598b1be036050400755c", checked := Try.checked }
namespace Rows
def none {H : Type} : Left H := { results := [], args := [] }

/-- 'crierlaw09.BankNews': WHATEVER THE INPUT: true; the input reads as it did. -/
def bankNewsSpec : ChangeSpec := { name := "bankNews", fn := fun _ => fun
  | [d1, d2, d3, d4] => { results := [.lit (.bool true)], args := [d1, d2, d3, d4] }
  | _ => none }
def bankNewsRow : OpenClaim := { program := "ytbglgblngfbhbaa", sum := "e6fd82def615394cdd207c56eea4d59a4e0f27da09ca598b1be036050400755c", func := "crier/crierlaw09.BankNews", spec := "bankNews", unfollowed := true, recurses := true, apart := false }
def BankNewsSaid : Prop := bankNewsRow.holds Try.pinned (OpenSpec.ofChange bankNewsSpec)

/-- ITS FALSE NEIGHBOUR: 'it returns false'. Refute it at one input. -/
def bankNewsWrong : ChangeSpec := { name := "bankNews", fn := fun _ => fun
  | [d1, d2, d3, d4] => { results := [.lit (.bool false)], args := [d1, d2, d3, d4] }
  | _ => none }
def BankNewsWrongFalsely : Prop := bankNewsRow.holds Try.pinned (OpenSpec.ofChange bankNewsWrong)

/-- 'crierlaw09.BankKeeps': WHATEVER THE INPUT: true; the input reads as it did. -/
def bankKeepsSpec : ChangeSpec := { name := "bankKeeps", fn := fun _ => fun
  | [d1, d2, d3, d4, d5] => { results := [.lit (.bool true)], args := [d1, d2, d3, d4, d5] }
  | _ => none }
def bankKeepsRow : OpenClaim := { program := "ytbglgblngfbhbaa", sum := "e6fd82def615394cdd207c56eea4d59a4e0f27da09ca598b1be036050400755c", func := "crier/crierlaw09.BankKeeps", spec := "bankKeeps", unfollowed := true, recurses := true, apart := false }
def BankKeepsSaid : Prop := bankKeepsRow.holds Try.pinned (OpenSpec.ofChange bankKeepsSpec)

/-- ITS FALSE NEIGHBOUR: 'it returns false'. Refute it at one input. -/
def bankKeepsWrong : ChangeSpec := { name := "bankKeeps", fn := fun _ => fun
  | [d1, d2, d3, d4, d5] => { results := [.lit (.bool false)], args := [d1, d2, d3, d4, d5] }
  | _ => none }
def BankKeepsWrongFalsely : Prop := bankKeepsRow.holds Try.pinned (OpenSpec.ofChange bankKeepsWrong)

/-- 'crierlaw09.BankAsked': WHATEVER THE INPUT: true; the input reads as it did. -/
def bankAskedSpec : ChangeSpec := { name := "bankAsked", fn := fun _ => fun
  | [d1, d2, d3, d4] => { results := [.lit (.bool true)], args := [d1, d2, d3, d4] }
  | _ => none }
def bankAskedRow : OpenClaim := { program := "ytbglgblngfbhbaa", sum := "e6fd82def615394cdd207c56eea4d59a4e0f27da09ca598b1be036050400755c", func := "crier/crierlaw09.BankAsked", spec := "bankAsked", unfollowed := true, recurses := true, apart := false }
def BankAskedSaid : Prop := bankAskedRow.holds Try.pinned (OpenSpec.ofChange bankAskedSpec)

/-- ITS FALSE NEIGHBOUR: 'it returns false'. Refute it at one input. -/
def bankAskedWrong : ChangeSpec := { name := "bankAsked", fn := fun _ => fun
  | [d1, d2, d3, d4] => { results := [.lit (.bool false)], args := [d1, d2, d3, d4] }
  | _ => none }
def BankAskedWrongFalsely : Prop := bankAskedRow.holds Try.pinned (OpenSpec.ofChange bankAskedWrong)

/-- 'crierlaw09.BankGroups': WHATEVER THE INPUT: true; the input reads as it did. -/
def bankGroupsSpec : ChangeSpec := { name := "bankGroups", fn := fun _ => fun
  | [d1, d2, d3] => { results := [.lit (.bool true)], args := [d1, d2, d3] }
  | _ => none }
def bankGroupsRow : OpenClaim := { program := "ytbglgblngfbhbaa", sum := "e6fd82def615394cdd207c56eea4d59a4e0f27da09ca598b1be036050400755c", func := "crier/crierlaw09.BankGroups", spec := "bankGroups", unfollowed := true, recurses := true, apart := false }
def BankGroupsSaid : Prop := bankGroupsRow.holds Try.pinned (OpenSpec.ofChange bankGroupsSpec)

/-- ITS FALSE NEIGHBOUR: 'it returns false'. Refute it at one input. -/
def bankGroupsWrong : ChangeSpec := { name := "bankGroups", fn := fun _ => fun
  | [d1, d2, d3] => { results := [.lit (.bool false)], args := [d1, d2, d3] }
  | _ => none }
def BankGroupsWrongFalsely : Prop := bankGroupsRow.holds Try.pinned (OpenSpec.ofChange bankGroupsWrong)

/-- 'crierlaw09.BankOrder': WHATEVER THE INPUT: true; the input reads as it did. -/
def bankOrderSpec : ChangeSpec := { name := "bankOrder", fn := fun _ => fun
  | [d1, d2, d3] => { results := [.lit (.bool true)], args := [d1, d2, d3] }
  | _ => none }
def bankOrderRow : OpenClaim := { program := "ytbglgblngfbhbaa", sum := "e6fd82def615394cdd207c56eea4d59a4e0f27da09ca598b1be036050400755c", func := "crier/crierlaw09.BankOrder", spec := "bankOrder", unfollowed := true, recurses := true, apart := false }
def BankOrderSaid : Prop := bankOrderRow.holds Try.pinned (OpenSpec.ofChange bankOrderSpec)

/-- ITS FALSE NEIGHBOUR: 'it returns false'. Refute it at one input. -/
def bankOrderWrong : ChangeSpec := { name := "bankOrder", fn := fun _ => fun
  | [d1, d2, d3] => { results := [.lit (.bool false)], args := [d1, d2, d3] }
  | _ => none }
def BankOrderWrongFalsely : Prop := bankOrderRow.holds Try.pinned (OpenSpec.ofChange bankOrderWrong)

/-- 'crierlaw09.BankDoes': WHATEVER THE INPUT: true; the input reads as it did. -/
def bankDoesSpec : ChangeSpec := { name := "bankDoes", fn := fun _ => fun
  | [d1, d2, d3, d4] => { results := [.lit (.bool true)], args := [d1, d2, d3, d4] }
  | _ => none }
def bankDoesRow : OpenClaim := { program := "ytbglgblngfbhbaa", sum := "e6fd82def615394cdd207c56eea4d59a4e0f27da09ca598b1be036050400755c", func := "crier/crierlaw09.BankDoes", spec := "bankDoes", unfollowed := true, recurses := true, apart := false }
def BankDoesSaid : Prop := bankDoesRow.holds Try.pinned (OpenSpec.ofChange bankDoesSpec)

/-- ITS FALSE NEIGHBOUR: 'it returns false'. Refute it at one input. -/
def bankDoesWrong : ChangeSpec := { name := "bankDoes", fn := fun _ => fun
  | [d1, d2, d3, d4] => { results := [.lit (.bool false)], args := [d1, d2, d3, d4] }
  | _ => none }
def BankDoesWrongFalsely : Prop := bankDoesRow.holds Try.pinned (OpenSpec.ofChange bankDoesWrong)

/- THE SECOND FORM. 'bulk': how many values and letters a reading holds, each counted each time it is reached (what is shared counts as often as it is met; a slice's spare places count too). A statement '..UptoSaid' is the law's where the arguments, and the package variables that the reading takes, are together of bulk at most 1048576: NARROWER than '..Said'. Prove '..Said' where nothing that the law and all that it calls make is longer than what came in: it says more and counts as full. Else prove '..UptoSaid'. A law counts once. -/
mutual
def uptoBulk {H : Type} : DataW H → Nat
  | .lit (.string bytes) => bytes.length + 1
  | .lit _ => 1
  | .nil => 1
  | .ptr d => uptoBulk d + 1
  | .slice elems spare => uptoBulkAll elems + uptoBulkAll spare + 1
  | .agg parts => uptoBulkAll parts + 1
  | .iface _ d => uptoBulk d + 1
  | .map entries => uptoBulkEntries entries + 1
  | .held _ => 1
def uptoBulkAll {H : Type} : List (DataW H) → Nat
  | [] => 0
  | d :: r => uptoBulk d + uptoBulkAll r
def uptoBulkEntries {H : Type} : List (Lit × DataW H) → Nat
  | [] => 0
  | x :: r => uptoBulkEntry x + uptoBulkEntries r
def uptoBulkEntry {H : Type} : Lit × DataW H → Nat
  | (.string bytes, d) => bytes.length + uptoBulk d + 1
  | (_, d) => uptoBulk d + 1
 end
def uptoSmall : (H : Type) → List (DataW H) → Bool := fun _ ds => decide (uptoBulkAll ds ≤ 1048576)
def OpenSpec.upto (s : _root_.Go.ChangeSpec) : _root_.Go.OpenSpec := { _root_.Go.OpenSpec.ofChange s with cond := some uptoSmall }

/-- 'crierlaw09.BankNews', WHERE WHAT IT READS IS OF BULK AT MOST 1048576: true; the input reads as it did. -/
def bankNewsUptoRow : OpenClaim := { program := "ytbglgblngfbhbaa", sum := "e6fd82def615394cdd207c56eea4d59a4e0f27da09ca598b1be036050400755c", func := "crier/crierlaw09.BankNews", spec := "bankNews", unfollowed := true, recurses := true, apart := false, narrowed := true }
def BankNewsUptoSaid : Prop := bankNewsUptoRow.holds Try.pinned (OpenSpec.upto bankNewsSpec)

/-- 'crierlaw09.BankKeeps', WHERE WHAT IT READS IS OF BULK AT MOST 1048576: true; the input reads as it did. -/
def bankKeepsUptoRow : OpenClaim := { program := "ytbglgblngfbhbaa", sum := "e6fd82def615394cdd207c56eea4d59a4e0f27da09ca598b1be036050400755c", func := "crier/crierlaw09.BankKeeps", spec := "bankKeeps", unfollowed := true, recurses := true, apart := false, narrowed := true }
def BankKeepsUptoSaid : Prop := bankKeepsUptoRow.holds Try.pinned (OpenSpec.upto bankKeepsSpec)

/-- 'crierlaw09.BankAsked', WHERE WHAT IT READS IS OF BULK AT MOST 1048576: true; the input reads as it did. -/
def bankAskedUptoRow : OpenClaim := { program := "ytbglgblngfbhbaa", sum := "e6fd82def615394cdd207c56eea4d59a4e0f27da09ca598b1be036050400755c", func := "crier/crierlaw09.BankAsked", spec := "bankAsked", unfollowed := true, recurses := true, apart := false, narrowed := true }
def BankAskedUptoSaid : Prop := bankAskedUptoRow.holds Try.pinned (OpenSpec.upto bankAskedSpec)

/-- 'crierlaw09.BankGroups', WHERE WHAT IT READS IS OF BULK AT MOST 1048576: true; the input reads as it did. -/
def bankGroupsUptoRow : OpenClaim := { program := "ytbglgblngfbhbaa", sum := "e6fd82def615394cdd207c56eea4d59a4e0f27da09ca598b1be036050400755c", func := "crier/crierlaw09.BankGroups", spec := "bankGroups", unfollowed := true, recurses := true, apart := false, narrowed := true }
def BankGroupsUptoSaid : Prop := bankGroupsUptoRow.holds Try.pinned (OpenSpec.upto bankGroupsSpec)

/-- 'crierlaw09.BankOrder', WHERE WHAT IT READS IS OF BULK AT MOST 1048576: true; the input reads as it did. -/
def bankOrderUptoRow : OpenClaim := { program := "ytbglgblngfbhbaa", sum := "e6fd82def615394cdd207c56eea4d59a4e0f27da09ca598b1be036050400755c", func := "crier/crierlaw09.BankOrder", spec := "bankOrder", unfollowed := true, recurses := true, apart := false, narrowed := true }
def BankOrderUptoSaid : Prop := bankOrderUptoRow.holds Try.pinned (OpenSpec.upto bankOrderSpec)

/-- 'crierlaw09.BankDoes', WHERE WHAT IT READS IS OF BULK AT MOST 1048576: true; the input reads as it did. -/
def bankDoesUptoRow : OpenClaim := { program := "ytbglgblngfbhbaa", sum := "e6fd82def615394cdd207c56eea4d59a4e0f27da09ca598b1be036050400755c", func := "crier/crierlaw09.BankDoes", spec := "bankDoes", unfollowed := true, recurses := true, apart := false, narrowed := true }
def BankDoesUptoSaid : Prop := bankDoesUptoRow.holds Try.pinned (OpenSpec.upto bankDoesSpec)

end Rows
end Go.Proofs.Ytbglgblngfbhbaa
