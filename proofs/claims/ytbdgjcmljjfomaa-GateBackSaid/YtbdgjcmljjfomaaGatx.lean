-- Made by a program of this workplace (wip/pr.sh) out of Lean's print of the translation; Lean checks it.
import Derived.Test.YtbdgjcmljjfomaaGatx0
import Derived.Test.YtbdgjcmljjfomaaGatx1
import Derived.Test.YtbdgjcmljjfomaaGatx2
import Derived.Test.YtbdgjcmljjfomaaGatx3
import Derived.Test.YtbdgjcmljjfomaaGatx4
import Derived.Test.YtbdgjcmljjfomaaGatx5
import Derived.Test.YtbdgjcmljjfomaaGatx6
import Derived.Test.YtbdgjcmljjfomaaGatx7
import Derived.Test.YtbdgjcmljjfomaaGatx8
import Derived.Test.YtbdgjcmljjfomaaGatx9
import Derived.Test.YtbdgjcmljjfomaaGatx10
import Derived.Test.YtbdgjcmljjfomaaGatx11
import Derived.Test.YtbdgjcmljjfomaaGatx12
import Derived.Test.YtbdgjcmljjfomaaGatx13
namespace Go.Proofs.Ytbdgjcmljjfomaa.Gat
open Go.RowKit Go.Proofs.YtbdgjcmljjfomaaW.PrintWords Go.Proofs.YtbdgjcmljjfomaaW.PrintLast Go.Proofs.YtbdgjcmljjfomaaW.PrintMore
attribute [local go_sem] max2_int min2_int max_two min_two max_three min_three max_four min_four   -- for this text's walks alone
set_option linter.unusedVariables false
set_option linter.unusedSimpArgs false

end Go.Proofs.Ytbdgjcmljjfomaa.Gat
