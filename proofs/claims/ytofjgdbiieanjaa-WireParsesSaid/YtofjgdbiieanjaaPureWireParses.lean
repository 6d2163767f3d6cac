/-
  mantletlaw08.WireParses: Parse agrees with the reference for any bytes.
-/
import Derived.Test.YtofjgdbiieanjaaAllx66
import Derived.Test.YtofjgdbiieanjaaNetWireA
import Derived.Test.YtofjgdbiieanjaaNetWireR
namespace Go.Proofs.Ytofjgdbiieanjaa.Pure
open Go.RowKit Go.Proofs.Ytofjgdbiieanjaa.All Go.Proofs.Ytofjgdbiieanjaa.Ext Go.Proofs.Ytofjgdbiieanjaa.Bits Go.Proofs.YtofjgdbiieanjaaW.PrintWords Go.Proofs.YtofjgdbiieanjaaW.PrintLast Go.Proofs.Ytofjgdbiieanjaa.NetRef Go.Proofs.Ytofjgdbiieanjaa.NetWire
theorem WireParses : mantletlaw08_WireParses.Pure := by
  intro l _ _ hb0
  have hb := short_byte (byte_of hb0)
  have hl := short_length l
  refine ⟨2000, ?_⟩
  have h1 := wire_eq (shortL l) (1950 - (shortL l).length) hb
  have h2 := refWire_eq (shortL l) (1950 - (shortL l).length) hb
  rw [show 1950 - (shortL l).length + 50 + (shortL l).length = 2000 by omega] at h1 h2
  have h3 := awake_from 1920
  unfold mantletlaw08_WireParses.f
  rw [short_eq, Option.bind_some, h1, Option.bind_some, Option.bind_some, h2, Option.bind_some, h3, Option.bind_some]
  simp only [beq_self_eq_true, Bool.and_self, if_true]
end Go.Proofs.Ytofjgdbiieanjaa.Pure
