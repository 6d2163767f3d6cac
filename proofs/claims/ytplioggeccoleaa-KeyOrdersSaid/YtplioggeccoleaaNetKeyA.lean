import Derived.Test.YtplioggeccoleaaKeyx22
import Derived.Test.YtplioggeccoleaaNetKey
namespace Go.Proofs.Ytplioggeccoleaa.NetKey
open Go.RowKit Go.Proofs.Ytplioggeccoleaa.Key Go.Proofs.Ytplioggeccoleaa.Ext Go.Proofs.Ytplioggeccoleaa.Bits Go.Proofs.YtplioggeccoleaaW.PrintWords Go.Proofs.YtplioggeccoleaaW.PrintLast
theorem awake0 : mantletlaw10_awake.f 80 = some true := by kernel_rfl
theorem awake (k : Nat) : mantletlaw10_awake.f (k + 80) = some true := by
  induction k with
  | zero => rw [Nat.zero_add]; exact awake0
  | succ k ih => rw [show k + 1 + 80 = (k + 80) + 1 by omega]; exact mantletlaw10_awake.mono _ _ ih
end Go.Proofs.Ytplioggeccoleaa.NetKey
