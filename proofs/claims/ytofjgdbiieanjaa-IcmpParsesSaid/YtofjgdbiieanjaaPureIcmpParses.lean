/-
  mantletlaw07.IcmpParses: Parse agrees with the reference for any bytes.
-/
import Derived.Test.YtofjgdbiieanjaaAllx15
import Derived.Test.YtofjgdbiieanjaaNetIcmp
namespace Go.Proofs.Ytofjgdbiieanjaa.Pure
open Go.RowKit Go.Proofs.Ytofjgdbiieanjaa.All Go.Proofs.Ytofjgdbiieanjaa.Bits Go.Proofs.YtofjgdbiieanjaaW.PrintWords Go.Proofs.YtofjgdbiieanjaaW.PrintLast Go.Proofs.Ytofjgdbiieanjaa.NetRef Go.Proofs.Ytofjgdbiieanjaa.NetIcmp
theorem IcmpParses : mantletlaw07_IcmpParses.Pure := by
  intro l _ _ hb0
  have hb := short_byte (byte_of hb0)
  have hl := short_length l
  refine ⟨2000, ?_⟩
  have h1 := parse_eq (shortL l) (1989 - (shortL l).length) hb (by omega)
  have h2 := refParse_eq (shortL l) (1999 - (shortL l).length) hb (by omega)
  rw [show 1989 - (shortL l).length + 11 + (shortL l).length = 2000 by omega] at h1
  rw [show 1999 - (shortL l).length + 1 + (shortL l).length = 2000 by omega] at h2
  have h3 := awake_from 1940
  unfold mantletlaw07_IcmpParses.f
  rw [short_eq, Option.bind_some, h1, Option.bind_some, Option.bind_some, h2, Option.bind_some, h3, Option.bind_some]
  rw [if_pos rfl, if_pos rfl, if_pos rfl, beq_self_eq_true]
end Go.Proofs.Ytofjgdbiieanjaa.Pure
