/-
  No cell of these rows narrows 'for every input' (looked for: loops, veiled, ifaces, maps, wideKeys, modest, calm, conditions, laid).
  DERIVED. THE GIVEN ROWS OF THIS SEAT. 8 by the template 'for every input the law returns true; each argument reads behind the call as it read before'; 0 by the template 'total and deterministic' (their statements: YtkbaghblchlcnaaTotals.lean).
  GIVEN WITH THE SEED: the statements are not yours to turn. If you find one false, say at which input.
  Laid BY PROGRAM, IN A SANDBOX (cutbox-rows.mjs): the forced cells as the released guide's own fill.sh prints them over the translation afcce520a3f63c82… (all of the seat's roots in one cut). By AI agents, Wed Nov 11 2026. No macro, syntax, notation, axiom, sorry.
-/
import Derived.Test.YtkbaghblchlcnaaChecked
import GoSem.Claim
import GoSem.ClaimJoined
import GoSem.ClaimMapViews
import Derived.JoinedTies
import Derived.KernelRfl
namespace Go.Proofs.Ytkbaghblchlcnaa
/- THE CELL 'sum', in the pinned program and in every row, IS THE sha256 OF THE DUMP (.gsa) THAT YtkbaghblchlcnaaProg.lean LOADS. Nothing in Lean hashes anything: it is a label: what it is worth is what the hold of that sum in a sandbox is worth. -/
noncomputable def Try.pinned : Pinned := { name := "ytkbaghblchlcnaa", sum := "afcce520a3f63c8205c17101e0a7e83f306c5698c4a44a109c63705cc48f1766", checked := Try.checked }
namespace Rows
def none {H : Type} : Left H := { results := [], args := [] }

/-- 'crierlaw21.VcpuNews': WHATEVER THE INPUT: true; the input reads as it did. -/
def vcpuNewsSpec : ChangeSpec := { name := "vcpuNews", fn := fun _ => fun
  | [d1, d2] => { results := [.lit (.bool true)], args := [d1, d2] }
  | _ => none }
def vcpuNewsRow : OpenClaim := { program := "ytkbaghblchlcnaa", sum := "afcce520a3f63c8205c17101e0a7e83f306c5698c4a44a109c63705cc48f1766", func := "crier/crierlaw21.VcpuNews", spec := "vcpuNews", unfollowed := true, recurses := true, apart := false }
def VcpuNewsSaid : Prop := vcpuNewsRow.holds Try.pinned (OpenSpec.ofChange vcpuNewsSpec)

/-- ITS FALSE NEIGHBOUR: 'it returns false'. Refute it at one input. -/
def vcpuNewsWrong : ChangeSpec := { name := "vcpuNews", fn := fun _ => fun
  | [d1, d2] => { results := [.lit (.bool false)], args := [d1, d2] }
  | _ => none }
def VcpuNewsWrongFalsely : Prop := vcpuNewsRow.holds Try.pinned (OpenSpec.ofChange vcpuNewsWrong)

/-- 'crierlaw21.VcpuTakes': WHATEVER THE INPUT: true; the input reads as it did. -/
def vcpuTakesSpec : ChangeSpec := { name := "vcpuTakes", fn := fun _ => fun
  | [d1, d2, d3, d4] => { results := [.lit (.bool true)], args := [d1, d2, d3, d4] }
  | _ => none }
def vcpuTakesRow : OpenClaim := { program := "ytkbaghblchlcnaa", sum := "afcce520a3f63c8205c17101e0a7e83f306c5698c4a44a109c63705cc48f1766", func := "crier/crierlaw21.VcpuTakes", spec := "vcpuTakes", unfollowed := true, recurses := true, apart := false }
def VcpuTakesSaid : Prop := vcpuTakesRow.holds Try.pinned (OpenSpec.ofChange vcpuTakesSpec)

/-- ITS FALSE NEIGHBOUR: 'it returns false'. Refute it at one input. -/
def vcpuTakesWrong : ChangeSpec := { name := "vcpuTakes", fn := fun _ => fun
  | [d1, d2, d3, d4] => { results := [.lit (.bool false)], args := [d1, d2, d3, d4] }
  | _ => none }
def VcpuTakesWrongFalsely : Prop := vcpuTakesRow.holds Try.pinned (OpenSpec.ofChange vcpuTakesWrong)

/-- 'crierlaw21.VcpuEnds': WHATEVER THE INPUT: true; the input reads as it did. -/
def vcpuEndsSpec : ChangeSpec := { name := "vcpuEnds", fn := fun _ => fun
  | [d1, d2, d3, d4] => { results := [.lit (.bool true)], args := [d1, d2, d3, d4] }
  | _ => none }
def vcpuEndsRow : OpenClaim := { program := "ytkbaghblchlcnaa", sum := "afcce520a3f63c8205c17101e0a7e83f306c5698c4a44a109c63705cc48f1766", func := "crier/crierlaw21.VcpuEnds", spec := "vcpuEnds", unfollowed := true, recurses := true, apart := false }
def VcpuEndsSaid : Prop := vcpuEndsRow.holds Try.pinned (OpenSpec.ofChange vcpuEndsSpec)

/-- ITS FALSE NEIGHBOUR: 'it returns false'. Refute it at one input. -/
def vcpuEndsWrong : ChangeSpec := { name := "vcpuEnds", fn := fun _ => fun
  | [d1, d2, d3, d4] => { results := [.lit (.bool false)], args := [d1, d2, d3, d4] }
  | _ => none }
def VcpuEndsWrongFalsely : Prop := vcpuEndsRow.holds Try.pinned (OpenSpec.ofChange vcpuEndsWrong)

/-- 'crierlaw21.VcpuLost': WHATEVER THE INPUT: true; the input reads as it did. -/
def vcpuLostSpec : ChangeSpec := { name := "vcpuLost", fn := fun _ => fun
  | [d1, d2, d3, d4] => { results := [.lit (.bool true)], args := [d1, d2, d3, d4] }
  | _ => none }
def vcpuLostRow : OpenClaim := { program := "ytkbaghblchlcnaa", sum := "afcce520a3f63c8205c17101e0a7e83f306c5698c4a44a109c63705cc48f1766", func := "crier/crierlaw21.VcpuLost", spec := "vcpuLost", unfollowed := true, recurses := true, apart := false }
def VcpuLostSaid : Prop := vcpuLostRow.holds Try.pinned (OpenSpec.ofChange vcpuLostSpec)

/-- ITS FALSE NEIGHBOUR: 'it returns false'. Refute it at one input. -/
def vcpuLostWrong : ChangeSpec := { name := "vcpuLost", fn := fun _ => fun
  | [d1, d2, d3, d4] => { results := [.lit (.bool false)], args := [d1, d2, d3, d4] }
  | _ => none }
def VcpuLostWrongFalsely : Prop := vcpuLostRow.holds Try.pinned (OpenSpec.ofChange vcpuLostWrong)

/-- 'crierlaw21.VcpuLoads': WHATEVER THE INPUT: true; the input reads as it did. -/
def vcpuLoadsSpec : ChangeSpec := { name := "vcpuLoads", fn := fun _ => fun
  | [d1, d2, d3, d4] => { results := [.lit (.bool true)], args := [d1, d2, d3, d4] }
  | _ => none }
def vcpuLoadsRow : OpenClaim := { program := "ytkbaghblchlcnaa", sum := "afcce520a3f63c8205c17101e0a7e83f306c5698c4a44a109c63705cc48f1766", func := "crier/crierlaw21.VcpuLoads", spec := "vcpuLoads", unfollowed := true, recurses := true, apart := false }
def VcpuLoadsSaid : Prop := vcpuLoadsRow.holds Try.pinned (OpenSpec.ofChange vcpuLoadsSpec)

/-- ITS FALSE NEIGHBOUR: 'it returns false'. Refute it at one input. -/
def vcpuLoadsWrong : ChangeSpec := { name := "vcpuLoads", fn := fun _ => fun
  | [d1, d2, d3, d4] => { results := [.lit (.bool false)], args := [d1, d2, d3, d4] }
  | _ => none }
def VcpuLoadsWrongFalsely : Prop := vcpuLoadsRow.holds Try.pinned (OpenSpec.ofChange vcpuLoadsWrong)

/-- 'crierlaw21.VcpuReads': WHATEVER THE INPUT: true; the input reads as it did. -/
def vcpuReadsSpec : ChangeSpec := { name := "vcpuReads", fn := fun _ => fun
  | [d1, d2, d3, d4, d5, d6] => { results := [.lit (.bool true)], args := [d1, d2, d3, d4, d5, d6] }
  | _ => none }
def vcpuReadsRow : OpenClaim := { program := "ytkbaghblchlcnaa", sum := "afcce520a3f63c8205c17101e0a7e83f306c5698c4a44a109c63705cc48f1766", func := "crier/crierlaw21.VcpuReads", spec := "vcpuReads", unfollowed := true, recurses := true, apart := false }
def VcpuReadsSaid : Prop := vcpuReadsRow.holds Try.pinned (OpenSpec.ofChange vcpuReadsSpec)

/-- ITS FALSE NEIGHBOUR: 'it returns false'. Refute it at one input. -/
def vcpuReadsWrong : ChangeSpec := { name := "vcpuReads", fn := fun _ => fun
  | [d1, d2, d3, d4, d5, d6] => { results := [.lit (.bool false)], args := [d1, d2, d3, d4, d5, d6] }
  | _ => none }
def VcpuReadsWrongFalsely : Prop := vcpuReadsRow.holds Try.pinned (OpenSpec.ofChange vcpuReadsWrong)

/-- 'crierlaw21.VcpuReal': WHATEVER THE INPUT: true; the input reads as it did. -/
def vcpuRealSpec : ChangeSpec := { name := "vcpuReal", fn := fun _ => fun
  | [d1, d2, d3, d4, d5] => { results := [.lit (.bool true)], args := [d1, d2, d3, d4, d5] }
  | _ => none }
def vcpuRealRow : OpenClaim := { program := "ytkbaghblchlcnaa", sum := "afcce520a3f63c8205c17101e0a7e83f306c5698c4a44a109c63705cc48f1766", func := "crier/crierlaw21.VcpuReal", spec := "vcpuReal", unfollowed := true, recurses := true, apart := false }
def VcpuRealSaid : Prop := vcpuRealRow.holds Try.pinned (OpenSpec.ofChange vcpuRealSpec)

/-- ITS FALSE NEIGHBOUR: 'it returns false'. Refute it at one input. -/
def vcpuRealWrong : ChangeSpec := { name := "vcpuReal", fn := fun _ => fun
  | [d1, d2, d3, d4, d5] => { results := [.lit (.bool false)], args := [d1, d2, d3, d4, d5] }
  | _ => none }
def VcpuRealWrongFalsely : Prop := vcpuRealRow.holds Try.pinned (OpenSpec.ofChange vcpuRealWrong)

/-- 'crierlaw21.VcpuDoes': WHATEVER THE INPUT: true; the input reads as it did. -/
def vcpuDoesSpec : ChangeSpec := { name := "vcpuDoes", fn := fun _ => fun
  | [d1, d2, d3] => { results := [.lit (.bool true)], args := [d1, d2, d3] }
  | _ => none }
def vcpuDoesRow : OpenClaim := { program := "ytkbaghblchlcnaa", sum := "afcce520a3f63c8205c17101e0a7e83f306c5698c4a44a109c63705cc48f1766", func := "crier/crierlaw21.VcpuDoes", spec := "vcpuDoes", unfollowed := true, recurses := true, apart := false }
def VcpuDoesSaid : Prop := vcpuDoesRow.holds Try.pinned (OpenSpec.ofChange vcpuDoesSpec)

/-- ITS FALSE NEIGHBOUR: 'it returns false'. Refute it at one input. -/
def vcpuDoesWrong : ChangeSpec := { name := "vcpuDoes", fn := fun _ => fun
  | [d1, d2, d3] => { results := [.lit (.bool false)], args := [d1, d2, d3] }
  | _ => none }
def VcpuDoesWrongFalsely : Prop := vcpuDoesRow.holds Try.pinned (OpenSpec.ofChange vcpuDoesWrong)

/- THE SECOND FORM. 'bulk': how many values and letters a reading holds, each counted each time it is reached (what is shared counts as often as it is met; a slice's spare places count too). A statement '..UptoSaid' is the law's where the arguments, and the package variables that the reading takes, are together of bulk at most 1048576: NARROWER than '..Said'. Prove '..Said' where nothing that the law and all that it calls make is longer than what came in: it says more and counts as full. Else prove '..UptoSaid'. A law counts once. -/
mutual
def uptoBulk {H : Type} : DataW H → Nat
  | .lit (.string bytes) => bytes.length + 1
  | .lit _ => 1
  | .nil => 1
  | .ptr d => uptoBulk d + 1
  | .slice elems spare => uptoBulkAll elems + uptoBulkAll spare + 1
  | .agg parts => uptoBulkAll parts + 1
  | .iface _ d => uptoBulk d + 1
  | .map entries => uptoBulkEntries entries + 1
  | .held _ => 1
def uptoBulkAll {H : Type} : List (DataW H) → Nat
  | [] => 0
  | d :: r => uptoBulk d + uptoBulkAll r
def uptoBulkEntries {H : Type} : List (Lit × DataW H) → Nat
  | [] => 0
  | x :: r => uptoBulkEntry x + uptoBulkEntries r
def uptoBulkEntry {H : Type} : Lit × DataW H → Nat
  | (.string bytes, d) => bytes.length + uptoBulk d + 1
  | (_, d) => uptoBulk d + 1
 end
def uptoSmall : (H : Type) → List (DataW H) → Bool := fun _ ds => decide (uptoBulkAll ds ≤ 1048576)
def OpenSpec.upto (s : _root_.Go.ChangeSpec) : _root_.Go.OpenSpec := { _root_.Go.OpenSpec.ofChange s with cond := some uptoSmall }

/-- 'crierlaw21.VcpuNews', WHERE WHAT IT READS IS OF BULK AT MOST 1048576: true; the input reads as it did. -/
def vcpuNewsUptoRow : OpenClaim := { program := "ytkbaghblchlcnaa", sum := "afcce520a3f63c8205c17101e0a7e83f306c5698c4a44a109c63705cc48f1766", func := "crier/crierlaw21.VcpuNews", spec := "vcpuNews", unfollowed := true, recurses := true, apart := false, narrowed := true }
def VcpuNewsUptoSaid : Prop := vcpuNewsUptoRow.holds Try.pinned (OpenSpec.upto vcpuNewsSpec)

/-- 'crierlaw21.VcpuTakes', WHERE WHAT IT READS IS OF BULK AT MOST 1048576: true; the input reads as it did. -/
def vcpuTakesUptoRow : OpenClaim := { program := "ytkbaghblchlcnaa", sum := "afcce520a3f63c8205c17101e0a7e83f306c5698c4a44a109c63705cc48f1766", func := "crier/crierlaw21.VcpuTakes", spec := "vcpuTakes", unfollowed := true, recurses := true, apart := false, narrowed := true }
def VcpuTakesUptoSaid : Prop := vcpuTakesUptoRow.holds Try.pinned (OpenSpec.upto vcpuTakesSpec)

/-- 'crierlaw21.VcpuEnds', WHERE WHAT IT READS IS OF BULK AT MOST 1048576: true; the input reads as it did. -/
def vcpuEndsUptoRow : OpenClaim := { program := "ytkbaghblchlcnaa", sum := "afcce520a3f63c8205c17101e0a7e83f306c5698c4a44a109c63705cc48f1766", func := "crier/crierlaw21.VcpuEnds", spec := "vcpuEnds", unfollowed := true, recurses := true, apart := false, narrowed := true }
def VcpuEndsUptoSaid : Prop := vcpuEndsUptoRow.holds Try.pinned (OpenSpec.upto vcpuEndsSpec)

/-- 'crierlaw21.VcpuLost', WHERE WHAT IT READS IS OF BULK AT MOST 1048576: true; the input reads as it did. -/
def vcpuLostUptoRow : OpenClaim := { program := "ytkbaghblchlcnaa", sum := "afcce520a3f63c8205c17101e0a7e83f306c5698c4a44a109c63705cc48f1766", func := "crier/crierlaw21.VcpuLost", spec := "vcpuLost", unfollowed := true, recurses := true, apart := false, narrowed := true }
def VcpuLostUptoSaid : Prop := vcpuLostUptoRow.holds Try.pinned (OpenSpec.upto vcpuLostSpec)

/-- 'crierlaw21.VcpuLoads', WHERE WHAT IT READS IS OF BULK AT MOST 1048576: true; the input reads as it did. -/
def vcpuLoadsUptoRow : OpenClaim := { program := "ytkbaghblchlcnaa", sum := "afcce520a3f63c8205c17101e0a7e83f306c5698c4a44a109c63705cc48f1766", func := "crier/crierlaw21.VcpuLoads", spec := "vcpuLoads", unfollowed := true, recurses := true, apart := false, narrowed := true }
def VcpuLoadsUptoSaid : Prop := vcpuLoadsUptoRow.holds Try.pinned (OpenSpec.upto vcpuLoadsSpec)

/-- 'crierlaw21.VcpuReads', WHERE WHAT IT READS IS OF BULK AT MOST 1048576: true; the input reads as it did. -/
def vcpuReadsUptoRow : OpenClaim := { program := "ytkbaghblchlcnaa", sum := "afcce520a3f63c8205c17101e0a7e83f306c5698c4a44a109c63705cc48f1766", func := "crier/crierlaw21.VcpuReads", spec := "vcpuReads", unfollowed := true, recurses := true, apart := false, narrowed := true }
def VcpuReadsUptoSaid : Prop := vcpuReadsUptoRow.holds Try.pinned (OpenSpec.upto vcpuReadsSpec)

/-- 'crierlaw21.VcpuReal', WHERE WHAT IT READS IS OF BULK AT MOST 1048576: true; the input reads as it did. -/
def vcpuRealUptoRow : OpenClaim := { program := "ytkbaghblchlcnaa", sum := "afcce520a3f63c8205c17101e0a7e83f306c5698c4a44a109c63705cc48f1766", func := "crier/crierlaw21.VcpuReal", spec := "vcpuReal", unfollowed := true, recurses := true, apart := false, narrowed := true }
def VcpuRealUptoSaid : Prop := vcpuRealUptoRow.holds Try.pinned (OpenSpec.upto vcpuRealSpec)

/-- 'crierlaw21.VcpuDoes', WHERE WHAT IT READS IS OF BULK AT MOST 1048576: true; the input reads as it did. -/
def vcpuDoesUptoRow : OpenClaim := { program := "ytkbaghblchlcnaa", sum := "afcce520a3f63c8205c17101e0a7e83f306c5698c4a44a109c63705cc48f1766", func := "crier/crierlaw21.VcpuDoes", spec := "vcpuDoes", unfollowed := true, recurses := true, apart := false, narrowed := true }
def VcpuDoesUptoSaid : Prop := vcpuDoesUptoRow.holds Try.pinned (OpenSpec.upto vcpuDoesSpec)

end Rows
end Go.Proofs.Ytkbaghblchlcnaa
