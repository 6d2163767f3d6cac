-- Made by a program of this workplace (wip/pr.sh) out of Lean's print of the translation; Lean checks it.
import Derived.Test.YtbdgjcmljjfomaaFlox0
import Derived.Test.YtbdgjcmljjfomaaFlox1
import Derived.Test.YtbdgjcmljjfomaaFlox2
import Derived.Test.YtbdgjcmljjfomaaFlox3
import Derived.Test.YtbdgjcmljjfomaaFlox4
import Derived.Test.YtbdgjcmljjfomaaFlox5
import Derived.Test.YtbdgjcmljjfomaaFlox6
import Derived.Test.YtbdgjcmljjfomaaFlox7
import Derived.Test.YtbdgjcmljjfomaaFlox8
import Derived.Test.YtbdgjcmljjfomaaFlox9
import Derived.Test.YtbdgjcmljjfomaaFlox10
import Derived.Test.YtbdgjcmljjfomaaFlox11
import Derived.Test.YtbdgjcmljjfomaaFlox12
import Derived.Test.YtbdgjcmljjfomaaFlox13
namespace Go.Proofs.Ytbdgjcmljjfomaa.Flo
open Go.RowKit Go.Proofs.YtbdgjcmljjfomaaW.PrintWords Go.Proofs.YtbdgjcmljjfomaaW.PrintLast Go.Proofs.YtbdgjcmljjfomaaW.PrintMore
attribute [local go_sem] max2_int min2_int max_two min_two max_three min_three max_four min_four   -- for this text's walks alone
set_option linter.unusedVariables false
set_option linter.unusedSimpArgs false

end Go.Proofs.Ytbdgjcmljjfomaa.Flo
