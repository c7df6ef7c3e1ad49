-- Written by the program wip/gen/inj.py of this repository, out of the translation, for this claim. Not trusted: Lean checks it.
import Derived.Test.YtmioioaapikbkaaProg
import Derived.Below
import Derived.Deep.Draws
import Derived.Deep.AppendLies
import Derived.Maps.AppendAt
import Derived.OwnWalk
import Derived.Laws.BytesArg
import Derived.Laws.MakeOwn
import Derived.Laws.OwnMore
import Derived.Deep.OwnRows
import Derived.Tactics
import Derived.Lib.ConvBytes
import Derived.Laws.Slices
import Derived.WalkKit
import Derived.KernelRfl
import Derived.RowKit3
import Derived.Deep.LoopGhost
import Derived.Deep.QuietTactic
import Derived.BigQuiet
import Derived.WideLaws
import Derived.Deep.DeepCutAuto
import Derived.Deep.CutBlock
import Derived.Deep.RegionHeld3
import Derived.Laws.Rows
import Derived.Lib.AppendStr
import Derived.ArgAppend
import Derived.Laws.IdiomCopy
import Derived.OrdersHeld
import Derived.Laws.BitsLemmas
import Derived.RowKit
import Derived.Test.YtmioioaapikbkaaHC
import Derived.Test.YtmioioaapikbkaaWWords
import Derived.Test.YtmioioaapikbkaaWLast
import Derived.Test.YtmioioaapikbkaaWTab
import Derived.Test.YtmioioaapikbkaaWFour
import Derived.Test.YtmioioaapikbkaaWQPut
import Derived.Test.YtmioioaapikbkaaWApart
import Derived.Test.YtmioioaapikbkaaWArr
import Derived.Test.YtmioioaapikbkaaWZeros
import Derived.Test.YtmioioaapikbkaaWFoot
import Derived.Test.YtmioioaapikbkaaWKept
import Derived.Test.YtmioioaapikbkaaWShare
import Derived.Test.YtmioioaapikbkaaWN
import Derived.Test.YtmioioaapikbkaaWFootNe
import Derived.Test.YtmioioaapikbkaaWAt
import Derived.Test.YtmioioaapikbkaaWEqStruct
import Derived.Test.YtmioioaapikbkaaWRepsOne
import Derived.Test.YtmioioaapikbkaaWInv
import Derived.Test.YtmioioaapikbkaaWInvWords
import Derived.Test.YtmioioaapikbkaaWGuard
import Derived.Test.YtmioioaapikbkaaWNEv
import Derived.Test.YtmioioaapikbkaaWMore
namespace Go.Proofs.Ytmioioaapikbkaa.IAll
open Go.RowKit Go.Proofs.YtmioioaapikbkaaW.PrintWords Go.Proofs.YtmioioaapikbkaaW.PrintLast Go.Proofs.YtmioioaapikbkaaW.PrintMore
attribute [local go_sem] max2_int min2_int max_two min_two max_three min_three max_four min_four   -- for this text's walks alone
set_option linter.unusedVariables false
set_option linter.unusedSimpArgs false



def errW : Option Int → Value
  | none => .nilIface
  | some c => .iface 0 (.int .i64 c)
theorem errW_none : errW none = .nilIface := rfl
theorem errW_some (c : Int) : errW (some c) = .iface 0 (.int .i64 c) := rfl

theorem info26 : (Try.prog.info? 26).map (fun i => (i.zero, i.size, i.bytes)) = some (some (.int .i64 0), 1, 8) := by kernel_rfl
-- the values' own types

end Go.Proofs.Ytmioioaapikbkaa.IAll
