import Derived.Test.YtofjgdbiieanjaaAllx52
import Derived.Test.YtofjgdbiieanjaaAllx56
import Derived.Test.YtofjgdbiieanjaaNetRef
namespace Go.Proofs.Ytofjgdbiieanjaa.NetIp
open Go.RowKit Go.Proofs.Ytofjgdbiieanjaa.All Go.Proofs.Ytofjgdbiieanjaa.Ext Go.Proofs.Ytofjgdbiieanjaa.Bits Go.Proofs.YtofjgdbiieanjaaW.PrintWords Go.Proofs.YtofjgdbiieanjaaW.PrintLast Go.Proofs.Ytofjgdbiieanjaa.NetField Go.Proofs.Ytofjgdbiieanjaa.NetSum Go.Proofs.Ytofjgdbiieanjaa.NetRef
theorem short_eq (l : List Int) : mantletlaw04_short.f l = some (shortL l) := by unfold mantletlaw04_short.f; exact short_of l
theorem awake : mantletlaw04_awake.f 80 = some true := by kernel_rfl
theorem awake_from (k : Nat) : mantletlaw04_awake.f (k + 80) = some true := by
  induction k with
  | zero => rw [Nat.zero_add]; exact awake
  | succ k ih => rw [show k + 1 + 80 = (k + 80) + 1 by omega]; exact mantletlaw04_awake.mono _ _ ih
end Go.Proofs.Ytofjgdbiieanjaa.NetIp
