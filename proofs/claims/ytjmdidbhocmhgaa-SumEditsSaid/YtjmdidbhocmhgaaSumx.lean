-- Made by a program of this workplace (wip/pr.sh) out of Lean's print of the translation; Lean checks it.
import Derived.Test.YtjmdidbhocmhgaaSumx0
import Derived.Test.YtjmdidbhocmhgaaSumx1
import Derived.Test.YtjmdidbhocmhgaaSumx2
import Derived.Test.YtjmdidbhocmhgaaSumx3
import Derived.Test.YtjmdidbhocmhgaaSumx4
import Derived.Test.YtjmdidbhocmhgaaSumx5
import Derived.Test.YtjmdidbhocmhgaaSumx6
import Derived.Test.YtjmdidbhocmhgaaSumx7
import Derived.Test.YtjmdidbhocmhgaaSumx8
import Derived.Test.YtjmdidbhocmhgaaSumx9
namespace Go.Proofs.Ytjmdidbhocmhgaa.Sum
open Go.RowKit Go.Proofs.YtjmdidbhocmhgaaW.PrintWords Go.Proofs.YtjmdidbhocmhgaaW.PrintLast Go.Proofs.YtjmdidbhocmhgaaW.PrintMore
attribute [local go_sem] max2_int min2_int max_two min_two max_three min_three max_four min_four   -- for this text's walks alone
set_option linter.unusedVariables false
set_option linter.unusedSimpArgs false

end Go.Proofs.Ytjmdidbhocmhgaa.Sum
