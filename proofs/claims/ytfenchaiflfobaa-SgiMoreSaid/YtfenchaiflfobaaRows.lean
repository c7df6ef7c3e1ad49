/-
  No cell of these rows narrows 'for every input' (looked for: loops, veiled, ifaces, maps, wideKeys, modest, calm, conditions, laid).
  DERIVED. THE GIVEN ROWS OF THIS SEAT. 6 by the template 'for every input the law returns true; each argument reads behind the call as it read before'; 0 by the template 'total and deterministic' (their statements: YtfenchaiflfobaaTotals.lean).
  GIVEN WITH THE SEED: the statements are not yours to turn. If you find one false, say at which input.
  Laid BY PROGRAM, IN A SANDBOX (cutbox-rows.mjs): the forced cells as the released guide's own fill.sh prints them over the translation c66be0a8c5fda0ad… (all of the seat's roots in one cut). By AI agents, Wed Nov 11 2026. No macro, syntax, notation, axiom, sorry.
-/
import Derived.Test.YtfenchaiflfobaaChecked
import GoSem.Claim
import GoSem.ClaimJoined
import GoSem.ClaimMapViews
import Derived.JoinedTies
import Derived.KernelRfl
namespace Go.Proofs.Ytfenchaiflfobaa
/- THE CELL 'sum', in the pinned program and in every row, IS THE sha256 OF THE DUMP (.gsa) THAT YtfenchaiflfobaaProg.lean LOADS. Nothing in Lean hashes anything: it is a label: what it is worth is what the hold of that sum in a sandbox is worth. -/
noncomputable def Try.pinned : Pinned := { name := "ytfenchaiflfobaa", sum := "c66be0a8c5fda0ad9cd4163d57973789edb1b5de51813674cb213e543fe9a05e", checked := Try.checked }
namespace Rows
def none {H : Type} : Left H := { results := [], args := [] }

/-- 'crierlaw12.SgiReads': WHATEVER THE INPUT: true; the input reads as it did. -/
def sgiReadsSpec : ChangeSpec := { name := "sgiReads", fn := fun _ => fun
  | [d] => { results := [.lit (.bool true)], args := [d] }
  | _ => none }
def sgiReadsRow : OpenClaim := { program := "ytfenchaiflfobaa", sum := "c66be0a8c5fda0ad9cd4163d57973789edb1b5de51813674cb213e543fe9a05e", func := "crier/crierlaw12.SgiReads", spec := "sgiReads", unfollowed := true, recurses := true, apart := false }
def SgiReadsSaid : Prop := sgiReadsRow.holds Try.pinned (OpenSpec.ofChange sgiReadsSpec)

/-- ITS FALSE NEIGHBOUR: 'it returns false'. Refute it at one input. -/
def sgiReadsWrong : ChangeSpec := { name := "sgiReads", fn := fun _ => fun
  | [d] => { results := [.lit (.bool false)], args := [d] }
  | _ => none }
def SgiReadsWrongFalsely : Prop := sgiReadsRow.holds Try.pinned (OpenSpec.ofChange sgiReadsWrong)

/-- 'crierlaw12.SgiCalls': WHATEVER THE INPUT: true; the input reads as it did. -/
def sgiCallsSpec : ChangeSpec := { name := "sgiCalls", fn := fun _ => fun
  | [d1, d2, d3] => { results := [.lit (.bool true)], args := [d1, d2, d3] }
  | _ => none }
def sgiCallsRow : OpenClaim := { program := "ytfenchaiflfobaa", sum := "c66be0a8c5fda0ad9cd4163d57973789edb1b5de51813674cb213e543fe9a05e", func := "crier/crierlaw12.SgiCalls", spec := "sgiCalls", unfollowed := true, recurses := true, apart := false }
def SgiCallsSaid : Prop := sgiCallsRow.holds Try.pinned (OpenSpec.ofChange sgiCallsSpec)

/-- ITS FALSE NEIGHBOUR: 'it returns false'. Refute it at one input. -/
def sgiCallsWrong : ChangeSpec := { name := "sgiCalls", fn := fun _ => fun
  | [d1, d2, d3] => { results := [.lit (.bool false)], args := [d1, d2, d3] }
  | _ => none }
def SgiCallsWrongFalsely : Prop := sgiCallsRow.holds Try.pinned (OpenSpec.ofChange sgiCallsWrong)

/-- 'crierlaw12.SgiMore': WHATEVER THE INPUT: true; the input reads as it did. -/
def sgiMoreSpec : ChangeSpec := { name := "sgiMore", fn := fun _ => fun
  | [d1, d2, d3, d4] => { results := [.lit (.bool true)], args := [d1, d2, d3, d4] }
  | _ => none }
def sgiMoreRow : OpenClaim := { program := "ytfenchaiflfobaa", sum := "c66be0a8c5fda0ad9cd4163d57973789edb1b5de51813674cb213e543fe9a05e", func := "crier/crierlaw12.SgiMore", spec := "sgiMore", unfollowed := true, recurses := true, apart := false }
def SgiMoreSaid : Prop := sgiMoreRow.holds Try.pinned (OpenSpec.ofChange sgiMoreSpec)

/-- ITS FALSE NEIGHBOUR: 'it returns false'. Refute it at one input. -/
def sgiMoreWrong : ChangeSpec := { name := "sgiMore", fn := fun _ => fun
  | [d1, d2, d3, d4] => { results := [.lit (.bool false)], args := [d1, d2, d3, d4] }
  | _ => none }
def SgiMoreWrongFalsely : Prop := sgiMoreRow.holds Try.pinned (OpenSpec.ofChange sgiMoreWrong)

/-- 'crierlaw12.SgiBack': WHATEVER THE INPUT: true; the input reads as it did. -/
def sgiBackSpec : ChangeSpec := { name := "sgiBack", fn := fun _ => fun
  | [d1, d2] => { results := [.lit (.bool true)], args := [d1, d2] }
  | _ => none }
def sgiBackRow : OpenClaim := { program := "ytfenchaiflfobaa", sum := "c66be0a8c5fda0ad9cd4163d57973789edb1b5de51813674cb213e543fe9a05e", func := "crier/crierlaw12.SgiBack", spec := "sgiBack", unfollowed := true, recurses := true, apart := false }
def SgiBackSaid : Prop := sgiBackRow.holds Try.pinned (OpenSpec.ofChange sgiBackSpec)

/-- ITS FALSE NEIGHBOUR: 'it returns false'. Refute it at one input. -/
def sgiBackWrong : ChangeSpec := { name := "sgiBack", fn := fun _ => fun
  | [d1, d2] => { results := [.lit (.bool false)], args := [d1, d2] }
  | _ => none }
def SgiBackWrongFalsely : Prop := sgiBackRow.holds Try.pinned (OpenSpec.ofChange sgiBackWrong)

/-- 'crierlaw12.SgiWhom': WHATEVER THE INPUT: true; the input reads as it did. -/
def sgiWhomSpec : ChangeSpec := { name := "sgiWhom", fn := fun _ => fun
  | [d1, d2, d3] => { results := [.lit (.bool true)], args := [d1, d2, d3] }
  | _ => none }
def sgiWhomRow : OpenClaim := { program := "ytfenchaiflfobaa", sum := "c66be0a8c5fda0ad9cd4163d57973789edb1b5de51813674cb213e543fe9a05e", func := "crier/crierlaw12.SgiWhom", spec := "sgiWhom", unfollowed := true, recurses := true, apart := false }
def SgiWhomSaid : Prop := sgiWhomRow.holds Try.pinned (OpenSpec.ofChange sgiWhomSpec)

/-- ITS FALSE NEIGHBOUR: 'it returns false'. Refute it at one input. -/
def sgiWhomWrong : ChangeSpec := { name := "sgiWhom", fn := fun _ => fun
  | [d1, d2, d3] => { results := [.lit (.bool false)], args := [d1, d2, d3] }
  | _ => none }
def SgiWhomWrongFalsely : Prop := sgiWhomRow.holds Try.pinned (OpenSpec.ofChange sgiWhomWrong)

/-- 'crierlaw12.SgiRises': WHATEVER THE INPUT: true; the input reads as it did. -/
def sgiRisesSpec : ChangeSpec := { name := "sgiRises", fn := fun _ => fun
  | [d1, d2, d3] => { results := [.lit (.bool true)], args := [d1, d2, d3] }
  | _ => none }
def sgiRisesRow : OpenClaim := { program := "ytfenchaiflfobaa", sum := "c66be0a8c5fda0ad9cd4163d57973789edb1b5de51813674cb213e543fe9a05e", func := "crier/crierlaw12.SgiRises", spec := "sgiRises", unfollowed := true, recurses := true, apart := false }
def SgiRisesSaid : Prop := sgiRisesRow.holds Try.pinned (OpenSpec.ofChange sgiRisesSpec)

/-- ITS FALSE NEIGHBOUR: 'it returns false'. Refute it at one input. -/
def sgiRisesWrong : ChangeSpec := { name := "sgiRises", fn := fun _ => fun
  | [d1, d2, d3] => { results := [.lit (.bool false)], args := [d1, d2, d3] }
  | _ => none }
def SgiRisesWrongFalsely : Prop := sgiRisesRow.holds Try.pinned (OpenSpec.ofChange sgiRisesWrong)

/- THE SECOND FORM. 'bulk': how many values and letters a reading holds, each counted each time it is reached (what is shared counts as often as it is met; a slice's spare places count too). A statement '..UptoSaid' is the law's where the arguments, and the package variables that the reading takes, are together of bulk at most 1048576: NARROWER than '..Said'. Prove '..Said' where nothing that the law and all that it calls make is longer than what came in: it says more and counts as full. Else prove '..UptoSaid'. A law counts once. -/
mutual
def uptoBulk {H : Type} : DataW H → Nat
  | .lit (.string bytes) => bytes.length + 1
  | .lit _ => 1
  | .nil => 1
  | .ptr d => uptoBulk d + 1
  | .slice elems spare => uptoBulkAll elems + uptoBulkAll spare + 1
  | .agg parts => uptoBulkAll parts + 1
  | .iface _ d => uptoBulk d + 1
  | .map entries => uptoBulkEntries entries + 1
  | .held _ => 1
def uptoBulkAll {H : Type} : List (DataW H) → Nat
  | [] => 0
  | d :: r => uptoBulk d + uptoBulkAll r
def uptoBulkEntries {H : Type} : List (Lit × DataW H) → Nat
  | [] => 0
  | x :: r => uptoBulkEntry x + uptoBulkEntries r
def uptoBulkEntry {H : Type} : Lit × DataW H → Nat
  | (.string bytes, d) => bytes.length + uptoBulk d + 1
  | (_, d) => uptoBulk d + 1
 end
def uptoSmall : (H : Type) → List (DataW H) → Bool := fun _ ds => decide (uptoBulkAll ds ≤ 1048576)
def OpenSpec.upto (s : _root_.Go.ChangeSpec) : _root_.Go.OpenSpec := { _root_.Go.OpenSpec.ofChange s with cond := some uptoSmall }

/-- 'crierlaw12.SgiReads', WHERE WHAT IT READS IS OF BULK AT MOST 1048576: true; the input reads as it did. -/
def sgiReadsUptoRow : OpenClaim := { program := "ytfenchaiflfobaa", sum := "c66be0a8c5fda0ad9cd4163d57973789edb1b5de51813674cb213e543fe9a05e", func := "crier/crierlaw12.SgiReads", spec := "sgiReads", unfollowed := true, recurses := true, apart := false, narrowed := true }
def SgiReadsUptoSaid : Prop := sgiReadsUptoRow.holds Try.pinned (OpenSpec.upto sgiReadsSpec)

/-- 'crierlaw12.SgiCalls', WHERE WHAT IT READS IS OF BULK AT MOST 1048576: true; the input reads as it did. -/
def sgiCallsUptoRow : OpenClaim := { program := "ytfenchaiflfobaa", sum := "c66be0a8c5fda0ad9cd4163d57973789edb1b5de51813674cb213e543fe9a05e", func := "crier/crierlaw12.SgiCalls", spec := "sgiCalls", unfollowed := true, recurses := true, apart := false, narrowed := true }
def SgiCallsUptoSaid : Prop := sgiCallsUptoRow.holds Try.pinned (OpenSpec.upto sgiCallsSpec)

/-- 'crierlaw12.SgiMore', WHERE WHAT IT READS IS OF BULK AT MOST 1048576: true; the input reads as it did. -/
def sgiMoreUptoRow : OpenClaim := { program := "ytfenchaiflfobaa", sum := "c66be0a8c5fda0ad9cd4163d57973789edb1b5de51813674cb213e543fe9a05e", func := "crier/crierlaw12.SgiMore", spec := "sgiMore", unfollowed := true, recurses := true, apart := false, narrowed := true }
def SgiMoreUptoSaid : Prop := sgiMoreUptoRow.holds Try.pinned (OpenSpec.upto sgiMoreSpec)

/-- 'crierlaw12.SgiBack', WHERE WHAT IT READS IS OF BULK AT MOST 1048576: true; the input reads as it did. -/
def sgiBackUptoRow : OpenClaim := { program := "ytfenchaiflfobaa", sum := "c66be0a8c5fda0ad9cd4163d57973789edb1b5de51813674cb213e543fe9a05e", func := "crier/crierlaw12.SgiBack", spec := "sgiBack", unfollowed := true, recurses := true, apart := false, narrowed := true }
def SgiBackUptoSaid : Prop := sgiBackUptoRow.holds Try.pinned (OpenSpec.upto sgiBackSpec)

/-- 'crierlaw12.SgiWhom', WHERE WHAT IT READS IS OF BULK AT MOST 1048576: true; the input reads as it did. -/
def sgiWhomUptoRow : OpenClaim := { program := "ytfenchaiflfobaa", sum := "c66be0a8c5fda0ad9cd4163d57973789edb1b5de51813674cb213e543fe9a05e", func := "crier/crierlaw12.SgiWhom", spec := "sgiWhom", unfollowed := true, recurses := true, apart := false, narrowed := true }
def SgiWhomUptoSaid : Prop := sgiWhomUptoRow.holds Try.pinned (OpenSpec.upto sgiWhomSpec)

/-- 'crierlaw12.SgiRises', WHERE WHAT IT READS IS OF BULK AT MOST 1048576: true; the input reads as it did. -/
def sgiRisesUptoRow : OpenClaim := { program := "ytfenchaiflfobaa", sum := "c66be0a8c5fda0ad9cd4163d57973789edb1b5de51813674cb213e543fe9a05e", func := "crier/crierlaw12.SgiRises", spec := "sgiRises", unfollowed := true, recurses := true, apart := false, narrowed := true }
def SgiRisesUptoSaid : Prop := sgiRisesUptoRow.holds Try.pinned (OpenSpec.upto sgiRisesSpec)

end Rows
end Go.Proofs.Ytfenchaiflfobaa
