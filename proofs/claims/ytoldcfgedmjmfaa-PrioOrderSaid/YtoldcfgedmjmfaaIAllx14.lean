-- Written by the program wip/gen/inj.py of this repository, out of the translation, for this claim. Not trusted: Lean checks it.
import Derived.Test.YtoldcfgedmjmfaaIAllx0
namespace Go.Proofs.Ytoldcfgedmjmfaa.IAll
open Go.RowKit Go.Proofs.YtoldcfgedmjmfaaW.PrintWords Go.Proofs.YtoldcfgedmjmfaaW.PrintLast Go.Proofs.YtoldcfgedmjmfaaW.PrintMore
attribute [local go_sem] max2_int min2_int max_two min_two max_three min_three max_four min_four   -- for this text's walks alone
set_option linter.unusedVariables false
set_option linter.unusedSimpArgs false

-- NOT PRINTED: function 3 (crierlaw06_PrioOrder)

end Go.Proofs.Ytoldcfgedmjmfaa.IAll
