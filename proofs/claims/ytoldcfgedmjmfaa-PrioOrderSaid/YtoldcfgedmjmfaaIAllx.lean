-- Written by the program wip/gen/inj.py of this repository, out of the translation, for this claim. Not trusted: Lean checks it.
import Derived.Test.YtoldcfgedmjmfaaIAllx0
import Derived.Test.YtoldcfgedmjmfaaIAllx1
import Derived.Test.YtoldcfgedmjmfaaIAllx2
import Derived.Test.YtoldcfgedmjmfaaIAllx3
import Derived.Test.YtoldcfgedmjmfaaIAllx4
import Derived.Test.YtoldcfgedmjmfaaIAllx5
import Derived.Test.YtoldcfgedmjmfaaIAllx6
import Derived.Test.YtoldcfgedmjmfaaIAllx7
import Derived.Test.YtoldcfgedmjmfaaIAllx8
import Derived.Test.YtoldcfgedmjmfaaIAllx9
import Derived.Test.YtoldcfgedmjmfaaIAllx10
import Derived.Test.YtoldcfgedmjmfaaIAllx11
import Derived.Test.YtoldcfgedmjmfaaIAllx12
import Derived.Test.YtoldcfgedmjmfaaIAllx13
import Derived.Test.YtoldcfgedmjmfaaIAllx14
namespace Go.Proofs.Ytoldcfgedmjmfaa.IAll
open Go.RowKit Go.Proofs.YtoldcfgedmjmfaaW.PrintWords Go.Proofs.YtoldcfgedmjmfaaW.PrintLast Go.Proofs.YtoldcfgedmjmfaaW.PrintMore
attribute [local go_sem] max2_int min2_int max_two min_two max_three min_three max_four min_four   -- for this text's walks alone
set_option linter.unusedVariables false
set_option linter.unusedSimpArgs false

end Go.Proofs.Ytoldcfgedmjmfaa.IAll
