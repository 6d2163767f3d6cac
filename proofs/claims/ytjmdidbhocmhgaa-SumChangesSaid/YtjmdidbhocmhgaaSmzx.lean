-- Made by a program of this workplace (wip/pr.sh) out of Lean's print of the translation; Lean checks it.
import Derived.Test.YtjmdidbhocmhgaaSmzx0
import Derived.Test.YtjmdidbhocmhgaaSmzx1
import Derived.Test.YtjmdidbhocmhgaaSmzx2
import Derived.Test.YtjmdidbhocmhgaaSmzx3
import Derived.Test.YtjmdidbhocmhgaaSmzx4
import Derived.Test.YtjmdidbhocmhgaaSmzx5
import Derived.Test.YtjmdidbhocmhgaaSmzx6
import Derived.Test.YtjmdidbhocmhgaaSmzx7
namespace Go.Proofs.Ytjmdidbhocmhgaa.Smz
open Go.RowKit Go.Proofs.YtjmdidbhocmhgaaW.PrintWords Go.Proofs.YtjmdidbhocmhgaaW.PrintLast Go.Proofs.YtjmdidbhocmhgaaW.PrintMore
attribute [local go_sem] max2_int min2_int max_two min_two max_three min_three max_four min_four   -- for this text's walks alone
set_option linter.unusedVariables false
set_option linter.unusedSimpArgs false

end Go.Proofs.Ytjmdidbhocmhgaa.Smz
