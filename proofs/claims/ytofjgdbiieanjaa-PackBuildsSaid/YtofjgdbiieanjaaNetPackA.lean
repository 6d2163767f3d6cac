import Derived.Test.YtofjgdbiieanjaaAllx72
import Derived.Test.YtofjgdbiieanjaaAllx75
import Derived.Test.YtofjgdbiieanjaaNetTurn
namespace Go.Proofs.Ytofjgdbiieanjaa.NetPack
open Go.RowKit Go.Proofs.Ytofjgdbiieanjaa.All Go.Proofs.Ytofjgdbiieanjaa.Ext Go.Proofs.Ytofjgdbiieanjaa.Bits Go.Proofs.YtofjgdbiieanjaaW.PrintWords Go.Proofs.YtofjgdbiieanjaaW.PrintLast Go.Proofs.Ytofjgdbiieanjaa.NetRef
theorem short_eq (l : List Int) : mantletlaw09_short.f l = some (shortL l) := by unfold mantletlaw09_short.f; exact short_of l
theorem awake : mantletlaw09_awake.f 80 = some true := by kernel_rfl
theorem awake_from (k : Nat) : mantletlaw09_awake.f (k + 80) = some true := by
  induction k with
  | zero => rw [Nat.zero_add]; exact awake
  | succ k ih => rw [show k + 1 + 80 = (k + 80) + 1 by omega]; exact mantletlaw09_awake.mono _ _ ih
end Go.Proofs.Ytofjgdbiieanjaa.NetPack
