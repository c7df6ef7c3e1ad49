/-
  No cell of these rows narrows 'for every input' (looked for: loops, veiled, ifaces, maps, wideKeys, modest, calm, conditions, laid).
  DERIVED. THE GIVEN ROWS OF THIS SEAT. 6 by the template 'for every input the law returns true; each argument reads behind the call as it read before'; 0 by the template 'total and deterministic' (their statements: YtbhideabefjadaaTotals.lean).
  GIVEN WITH THE SEED: the statements are not yours to turn. If you find one false, say at which input.
  Laid BY PROGRAM, IN A SANDBOX (cutbox-rows.mjs): the forced cells as the released guide's own fill.sh prints them over the translation 5a7f087882783b16… (all of the seat's roots in one cut). By AI agents, Wed Nov 11 2026. No macro, syntax, notation, axiom, sorry.
-/
import Derived.Test.YtbhideabefjadaaChecked
import GoSem.Claim
import GoSem.ClaimJoined
import GoSem.ClaimMapViews
import Derived.JoinedTies
import Derived.KernelRfl
namespace Go.Proofs.Ytbhideabefjadaa
/- THE CELL 'sum', in the pinned program and in every row, IS THE sha256 OF THE DUMP (.gsa) THAT YtbhideabefjadaaProg.lean LOADS. Nothing in Lean hashes anything: it is a label: what it is worth is what the hold of that sum in a sandbox is worth. -/
noncomputable def Try.pinned : Pinned := { name := "ytbhideabefjadaa", sum := "5a7f087882783b16c069ff7779bdcfbc4984dd2642eea8c38134293a73fa1562", checked := Try.checked }
namespace Rows
def none {H : Type} : Left H := { results := [], args := [] }

/-- 'crierlaw20.LrApart': WHATEVER THE INPUT: true; the input reads as it did. -/
def lrApartSpec : ChangeSpec := { name := "lrApart", fn := fun _ => fun
  | [d1, d2] => { results := [.lit (.bool true)], args := [d1, d2] }
  | _ => none }
def lrApartRow : OpenClaim := { program := "ytbhideabefjadaa", sum := "5a7f087882783b16c069ff7779bdcfbc4984dd2642eea8c38134293a73fa1562", func := "crier/crierlaw20.LrApart", spec := "lrApart", unfollowed := true, recurses := true, apart := false }
def LrApartSaid : Prop := lrApartRow.holds Try.pinned (OpenSpec.ofChange lrApartSpec)

/-- ITS FALSE NEIGHBOUR: 'it returns false'. Refute it at one input. -/
def lrApartWrong : ChangeSpec := { name := "lrApart", fn := fun _ => fun
  | [d1, d2] => { results := [.lit (.bool false)], args := [d1, d2] }
  | _ => none }
def LrApartWrongFalsely : Prop := lrApartRow.holds Try.pinned (OpenSpec.ofChange lrApartWrong)

/-- 'crierlaw20.LrBest': WHATEVER THE INPUT: true; the input reads as it did. -/
def lrBestSpec : ChangeSpec := { name := "lrBest", fn := fun _ => fun
  | [d] => { results := [.lit (.bool true)], args := [d] }
  | _ => none }
def lrBestRow : OpenClaim := { program := "ytbhideabefjadaa", sum := "5a7f087882783b16c069ff7779bdcfbc4984dd2642eea8c38134293a73fa1562", func := "crier/crierlaw20.LrBest", spec := "lrBest", unfollowed := true, recurses := true, apart := false }
def LrBestSaid : Prop := lrBestRow.holds Try.pinned (OpenSpec.ofChange lrBestSpec)

/-- ITS FALSE NEIGHBOUR: 'it returns false'. Refute it at one input. -/
def lrBestWrong : ChangeSpec := { name := "lrBest", fn := fun _ => fun
  | [d] => { results := [.lit (.bool false)], args := [d] }
  | _ => none }
def LrBestWrongFalsely : Prop := lrBestRow.holds Try.pinned (OpenSpec.ofChange lrBestWrong)

/-- 'crierlaw20.LrBits': WHATEVER THE INPUT: true; the input reads as it did. -/
def lrBitsSpec : ChangeSpec := { name := "lrBits", fn := fun _ => fun
  | [d1, d2] => { results := [.lit (.bool true)], args := [d1, d2] }
  | _ => none }
def lrBitsRow : OpenClaim := { program := "ytbhideabefjadaa", sum := "5a7f087882783b16c069ff7779bdcfbc4984dd2642eea8c38134293a73fa1562", func := "crier/crierlaw20.LrBits", spec := "lrBits", unfollowed := true, recurses := true, apart := false }
def LrBitsSaid : Prop := lrBitsRow.holds Try.pinned (OpenSpec.ofChange lrBitsSpec)

/-- ITS FALSE NEIGHBOUR: 'it returns false'. Refute it at one input. -/
def lrBitsWrong : ChangeSpec := { name := "lrBits", fn := fun _ => fun
  | [d1, d2] => { results := [.lit (.bool false)], args := [d1, d2] }
  | _ => none }
def LrBitsWrongFalsely : Prop := lrBitsRow.holds Try.pinned (OpenSpec.ofChange lrBitsWrong)

/-- 'crierlaw20.LrNumbers': WHATEVER THE INPUT: true; the input reads as it did. -/
def lrNumbersSpec : ChangeSpec := { name := "lrNumbers", fn := fun _ => fun
  | [d1, d2] => { results := [.lit (.bool true)], args := [d1, d2] }
  | _ => none }
def lrNumbersRow : OpenClaim := { program := "ytbhideabefjadaa", sum := "5a7f087882783b16c069ff7779bdcfbc4984dd2642eea8c38134293a73fa1562", func := "crier/crierlaw20.LrNumbers", spec := "lrNumbers", unfollowed := true, recurses := true, apart := false }
def LrNumbersSaid : Prop := lrNumbersRow.holds Try.pinned (OpenSpec.ofChange lrNumbersSpec)

/-- ITS FALSE NEIGHBOUR: 'it returns false'. Refute it at one input. -/
def lrNumbersWrong : ChangeSpec := { name := "lrNumbers", fn := fun _ => fun
  | [d1, d2] => { results := [.lit (.bool false)], args := [d1, d2] }
  | _ => none }
def LrNumbersWrongFalsely : Prop := lrNumbersRow.holds Try.pinned (OpenSpec.ofChange lrNumbersWrong)

/-- 'crierlaw20.LrBack': WHATEVER THE INPUT: true; the input reads as it did. -/
def lrBackSpec : ChangeSpec := { name := "lrBack", fn := fun _ => fun
  | [d1, d2] => { results := [.lit (.bool true)], args := [d1, d2] }
  | _ => none }
def lrBackRow : OpenClaim := { program := "ytbhideabefjadaa", sum := "5a7f087882783b16c069ff7779bdcfbc4984dd2642eea8c38134293a73fa1562", func := "crier/crierlaw20.LrBack", spec := "lrBack", unfollowed := true, recurses := true, apart := false }
def LrBackSaid : Prop := lrBackRow.holds Try.pinned (OpenSpec.ofChange lrBackSpec)

/-- ITS FALSE NEIGHBOUR: 'it returns false'. Refute it at one input. -/
def lrBackWrong : ChangeSpec := { name := "lrBack", fn := fun _ => fun
  | [d1, d2] => { results := [.lit (.bool false)], args := [d1, d2] }
  | _ => none }
def LrBackWrongFalsely : Prop := lrBackRow.holds Try.pinned (OpenSpec.ofChange lrBackWrong)

/-- 'crierlaw20.LrRight': WHATEVER THE INPUT: true; the input reads as it did. -/
def lrRightSpec : ChangeSpec := { name := "lrRight", fn := fun _ => fun
  | [d1, d2, d3] => { results := [.lit (.bool true)], args := [d1, d2, d3] }
  | _ => none }
def lrRightRow : OpenClaim := { program := "ytbhideabefjadaa", sum := "5a7f087882783b16c069ff7779bdcfbc4984dd2642eea8c38134293a73fa1562", func := "crier/crierlaw20.LrRight", spec := "lrRight", unfollowed := true, recurses := true, apart := false }
def LrRightSaid : Prop := lrRightRow.holds Try.pinned (OpenSpec.ofChange lrRightSpec)

/-- ITS FALSE NEIGHBOUR: 'it returns false'. Refute it at one input. -/
def lrRightWrong : ChangeSpec := { name := "lrRight", fn := fun _ => fun
  | [d1, d2, d3] => { results := [.lit (.bool false)], args := [d1, d2, d3] }
  | _ => none }
def LrRightWrongFalsely : Prop := lrRightRow.holds Try.pinned (OpenSpec.ofChange lrRightWrong)

/- THE SECOND FORM. 'bulk': how many values and letters a reading holds, each counted each time it is reached (what is shared counts as often as it is met; a slice's spare places count too). A statement '..UptoSaid' is the law's where the arguments, and the package variables that the reading takes, are together of bulk at most 1048576: NARROWER than '..Said'. Prove '..Said' where nothing that the law and all that it calls make is longer than what came in: it says more and counts as full. Else prove '..UptoSaid'. A law counts once. -/
mutual
def uptoBulk {H : Type} : DataW H → Nat
  | .lit (.string bytes) => bytes.length + 1
  | .lit _ => 1
  | .nil => 1
  | .ptr d => uptoBulk d + 1
  | .slice elems spare => uptoBulkAll elems + uptoBulkAll spare + 1
  | .agg parts => uptoBulkAll parts + 1
  | .iface _ d => uptoBulk d + 1
  | .map entries => uptoBulkEntries entries + 1
  | .held _ => 1
def uptoBulkAll {H : Type} : List (DataW H) → Nat
  | [] => 0
  | d :: r => uptoBulk d + uptoBulkAll r
def uptoBulkEntries {H : Type} : List (Lit × DataW H) → Nat
  | [] => 0
  | x :: r => uptoBulkEntry x + uptoBulkEntries r
def uptoBulkEntry {H : Type} : Lit × DataW H → Nat
  | (.string bytes, d) => bytes.length + uptoBulk d + 1
  | (_, d) => uptoBulk d + 1
 end
def uptoSmall : (H : Type) → List (DataW H) → Bool := fun _ ds => decide (uptoBulkAll ds ≤ 1048576)
def OpenSpec.upto (s : _root_.Go.ChangeSpec) : _root_.Go.OpenSpec := { _root_.Go.OpenSpec.ofChange s with cond := some uptoSmall }

/-- 'crierlaw20.LrApart', WHERE WHAT IT READS IS OF BULK AT MOST 1048576: true; the input reads as it did. -/
def lrApartUptoRow : OpenClaim := { program := "ytbhideabefjadaa", sum := "5a7f087882783b16c069ff7779bdcfbc4984dd2642eea8c38134293a73fa1562", func := "crier/crierlaw20.LrApart", spec := "lrApart", unfollowed := true, recurses := true, apart := false, narrowed := true }
def LrApartUptoSaid : Prop := lrApartUptoRow.holds Try.pinned (OpenSpec.upto lrApartSpec)

/-- 'crierlaw20.LrBest', WHERE WHAT IT READS IS OF BULK AT MOST 1048576: true; the input reads as it did. -/
def lrBestUptoRow : OpenClaim := { program := "ytbhideabefjadaa", sum := "5a7f087882783b16c069ff7779bdcfbc4984dd2642eea8c38134293a73fa1562", func := "crier/crierlaw20.LrBest", spec := "lrBest", unfollowed := true, recurses := true, apart := false, narrowed := true }
def LrBestUptoSaid : Prop := lrBestUptoRow.holds Try.pinned (OpenSpec.upto lrBestSpec)

/-- 'crierlaw20.LrBits', WHERE WHAT IT READS IS OF BULK AT MOST 1048576: true; the input reads as it did. -/
def lrBitsUptoRow : OpenClaim := { program := "ytbhideabefjadaa", sum := "5a7f087882783b16c069ff7779bdcfbc4984dd2642eea8c38134293a73fa1562", func := "crier/crierlaw20.LrBits", spec := "lrBits", unfollowed := true, recurses := true, apart := false, narrowed := true }
def LrBitsUptoSaid : Prop := lrBitsUptoRow.holds Try.pinned (OpenSpec.upto lrBitsSpec)

/-- 'crierlaw20.LrNumbers', WHERE WHAT IT READS IS OF BULK AT MOST 1048576: true; the input reads as it did. -/
def lrNumbersUptoRow : OpenClaim := { program := "ytbhideabefjadaa", sum := "5a7f087882783b16c069ff7779bdcfbc4984dd2642eea8c38134293a73fa1562", func := "crier/crierlaw20.LrNumbers", spec := "lrNumbers", unfollowed := true, recurses := true, apart := false, narrowed := true }
def LrNumbersUptoSaid : Prop := lrNumbersUptoRow.holds Try.pinned (OpenSpec.upto lrNumbersSpec)

/-- 'crierlaw20.LrBack', WHERE WHAT IT READS IS OF BULK AT MOST 1048576: true; the input reads as it did. -/
def lrBackUptoRow : OpenClaim := { program := "ytbhideabefjadaa", sum := "5a7f087882783b16c069ff7779bdcfbc4984dd2642eea8c38134293a73fa1562", func := "crier/crierlaw20.LrBack", spec := "lrBack", unfollowed := true, recurses := true, apart := false, narrowed := true }
def LrBackUptoSaid : Prop := lrBackUptoRow.holds Try.pinned (OpenSpec.upto lrBackSpec)

/-- 'crierlaw20.LrRight', WHERE WHAT IT READS IS OF BULK AT MOST 1048576: true; the input reads as it did. -/
def lrRightUptoRow : OpenClaim := { program := "ytbhideabefjadaa", sum := "5a7f087882783b16c069ff7779bdcfbc4984dd2642eea8c38134293a73fa1562", func := "crier/crierlaw20.LrRight", spec := "lrRight", unfollowed := true, recurses := true, apart := false, narrowed := true }
def LrRightUptoSaid : Prop := lrRightUptoRow.holds Try.pinned (OpenSpec.upto lrRightSpec)

end Rows
end Go.Proofs.Ytbhideabefjadaa
