-- Written by the program wip/gen/inj.py of this repository, out of the translation, for this claim. Not trusted: Lean checks it.
import Derived.Test.YtoldcfgedmjmfaaProg
import Derived.Below
import Derived.Deep.Draws
import Derived.Deep.AppendLies
import Derived.Maps.AppendAt
import Derived.OwnWalk
import Derived.Laws.BytesArg
import Derived.Laws.MakeOwn
import Derived.Laws.OwnMore
import Derived.Deep.OwnRows
import Derived.Tactics
import Derived.Lib.ConvBytes
import Derived.Laws.Slices
import Derived.WalkKit
import Derived.KernelRfl
import Derived.RowKit3
import Derived.Deep.LoopGhost
import Derived.Deep.QuietTactic
import Derived.BigQuiet
import Derived.WideLaws
import Derived.Deep.DeepCutAuto
import Derived.Deep.CutBlock
import Derived.Deep.RegionHeld3
import Derived.Laws.Rows
import Derived.Lib.AppendStr
import Derived.ArgAppend
import Derived.Laws.IdiomCopy
import Derived.OrdersHeld
import Derived.Laws.BitsLemmas
import Derived.RowKit
import Derived.Test.YtoldcfgedmjmfaaH2
import Derived.Test.YtoldcfgedmjmfaaWWords
import Derived.Test.YtoldcfgedmjmfaaWLast
import Derived.Test.YtoldcfgedmjmfaaWTab
import Derived.Test.YtoldcfgedmjmfaaWFour
import Derived.Test.YtoldcfgedmjmfaaWQPut
import Derived.Test.YtoldcfgedmjmfaaWApart
import Derived.Test.YtoldcfgedmjmfaaWArr
import Derived.Test.YtoldcfgedmjmfaaWZeros
import Derived.Test.YtoldcfgedmjmfaaWFoot
import Derived.Test.YtoldcfgedmjmfaaWKept
import Derived.Test.YtoldcfgedmjmfaaWShare
import Derived.Test.YtoldcfgedmjmfaaWN
import Derived.Test.YtoldcfgedmjmfaaWFootNe
import Derived.Test.YtoldcfgedmjmfaaWAt
import Derived.Test.YtoldcfgedmjmfaaWEqStruct
import Derived.Test.YtoldcfgedmjmfaaWRepsOne
import Derived.Test.YtoldcfgedmjmfaaWInv
import Derived.Test.YtoldcfgedmjmfaaWInvWords
import Derived.Test.YtoldcfgedmjmfaaWGuard
import Derived.Test.YtoldcfgedmjmfaaWNEv
import Derived.Test.YtoldcfgedmjmfaaWMore
namespace Go.Proofs.Ytoldcfgedmjmfaa.IAll
open Go.RowKit Go.Proofs.YtoldcfgedmjmfaaW.PrintWords Go.Proofs.YtoldcfgedmjmfaaW.PrintLast Go.Proofs.YtoldcfgedmjmfaaW.PrintMore
attribute [local go_sem] max2_int min2_int max_two min_two max_three min_three max_four min_four   -- for this text's walks alone
set_option linter.unusedVariables false
set_option linter.unusedSimpArgs false



def errW : Option Int → Value
  | none => .nilIface
  | some c => .iface 0 (.int .i64 c)
theorem errW_none : errW none = .nilIface := rfl
theorem errW_some (c : Int) : errW (some c) = .iface 0 (.int .i64 c) := rfl

theorem info3 : (Try.prog.info? 3).map (fun i => (i.zero, i.size, i.bytes)) = some (some (.int .i64 0), 1, 8) := by kernel_rfl
-- the values' own types

end Go.Proofs.Ytoldcfgedmjmfaa.IAll
