-- Written by the program wip/gen/inj.py of this repository, out of the translation, for this claim. Not trusted: Lean checks it.
import Derived.Test.YtfenchaiflfobaaProg
import Derived.Below
import Derived.Deep.Draws
import Derived.Deep.AppendLies
import Derived.Maps.AppendAt
import Derived.OwnWalk
import Derived.Laws.BytesArg
import Derived.Laws.MakeOwn
import Derived.Laws.OwnMore
import Derived.Deep.OwnRows
import Derived.Tactics
import Derived.Lib.ConvBytes
import Derived.Laws.Slices
import Derived.WalkKit
import Derived.KernelRfl
import Derived.RowKit3
import Derived.Deep.LoopGhost
import Derived.Deep.QuietTactic
import Derived.BigQuiet
import Derived.WideLaws
import Derived.Deep.DeepCutAuto
import Derived.Deep.CutBlock
import Derived.Deep.RegionHeld3
import Derived.Laws.Rows
import Derived.Lib.AppendStr
import Derived.ArgAppend
import Derived.Laws.IdiomCopy
import Derived.OrdersHeld
import Derived.Laws.BitsLemmas
import Derived.RowKit
import Derived.Test.YtfenchaiflfobaaHC
import Derived.Test.YtfenchaiflfobaaWWords
import Derived.Test.YtfenchaiflfobaaWLast
import Derived.Test.YtfenchaiflfobaaWTab
import Derived.Test.YtfenchaiflfobaaWFour
import Derived.Test.YtfenchaiflfobaaWQPut
import Derived.Test.YtfenchaiflfobaaWApart
import Derived.Test.YtfenchaiflfobaaWArr
import Derived.Test.YtfenchaiflfobaaWZeros
import Derived.Test.YtfenchaiflfobaaWFoot
import Derived.Test.YtfenchaiflfobaaWKept
import Derived.Test.YtfenchaiflfobaaWShare
import Derived.Test.YtfenchaiflfobaaWN
import Derived.Test.YtfenchaiflfobaaWFootNe
import Derived.Test.YtfenchaiflfobaaWAt
import Derived.Test.YtfenchaiflfobaaWEqStruct
import Derived.Test.YtfenchaiflfobaaWRepsOne
import Derived.Test.YtfenchaiflfobaaWInv
import Derived.Test.YtfenchaiflfobaaWInvWords
import Derived.Test.YtfenchaiflfobaaWGuard
import Derived.Test.YtfenchaiflfobaaWNEv
import Derived.Test.YtfenchaiflfobaaWMore
namespace Go.Proofs.Ytfenchaiflfobaa.IAll
open Go.RowKit Go.Proofs.YtfenchaiflfobaaW.PrintWords Go.Proofs.YtfenchaiflfobaaW.PrintLast Go.Proofs.YtfenchaiflfobaaW.PrintMore
attribute [local go_sem] max2_int min2_int max_two min_two max_three min_three max_four min_four   -- for this text's walks alone
set_option linter.unusedVariables false
set_option linter.unusedSimpArgs false



def errW : Option Int → Value
  | none => .nilIface
  | some c => .iface 0 (.int .i64 c)
theorem errW_none : errW none = .nilIface := rfl
theorem errW_some (c : Int) : errW (some c) = .iface 0 (.int .i64 c) := rfl

theorem info3 : (Try.prog.info? 3).map (fun i => (i.zero, i.size, i.bytes)) = some (some (.int .i64 0), 1, 8) := by kernel_rfl
-- the values' own types

end Go.Proofs.Ytfenchaiflfobaa.IAll
