-- Made by a program of this workplace (wip/pr.sh) out of Lean's print of the translation; Lean checks it.
import Derived.Test.YtjmdidbhocmhgaaFldx0
import Derived.Test.YtjmdidbhocmhgaaFldx1
import Derived.Test.YtjmdidbhocmhgaaFldx2
import Derived.Test.YtjmdidbhocmhgaaFldx3
import Derived.Test.YtjmdidbhocmhgaaFldx4
import Derived.Test.YtjmdidbhocmhgaaFldx5
import Derived.Test.YtjmdidbhocmhgaaFldx6
import Derived.Test.YtjmdidbhocmhgaaFldx7
import Derived.Test.YtjmdidbhocmhgaaFldx8
import Derived.Test.YtjmdidbhocmhgaaFldx9
import Derived.Test.YtjmdidbhocmhgaaFldx10
import Derived.Test.YtjmdidbhocmhgaaFldx11
import Derived.Test.YtjmdidbhocmhgaaFldx12
import Derived.Test.YtjmdidbhocmhgaaFldx13
import Derived.Test.YtjmdidbhocmhgaaFldx14
import Derived.Test.YtjmdidbhocmhgaaFldx15
namespace Go.Proofs.Ytjmdidbhocmhgaa.Fld
open Go.RowKit Go.Proofs.YtjmdidbhocmhgaaW.PrintWords Go.Proofs.YtjmdidbhocmhgaaW.PrintLast Go.Proofs.YtjmdidbhocmhgaaW.PrintMore
attribute [local go_sem] max2_int min2_int max_two min_two max_three min_three max_four min_four   -- for this text's walks alone
set_option linter.unusedVariables false
set_option linter.unusedSimpArgs false

end Go.Proofs.Ytjmdidbhocmhgaa.Fld
