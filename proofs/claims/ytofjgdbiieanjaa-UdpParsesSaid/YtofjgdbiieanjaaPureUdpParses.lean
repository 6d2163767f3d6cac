/-
  mantletlaw06.UdpParses: Parse agrees with the reference for any bytes.
-/
import Derived.Test.YtofjgdbiieanjaaBackUdpParses
import Derived.Test.YtofjgdbiieanjaaNetUdpA
import Derived.Test.YtofjgdbiieanjaaNetUdp
namespace Go.Proofs.Ytofjgdbiieanjaa.Pure
open Go.RowKit Go.Proofs.Ytofjgdbiieanjaa.All Go.Proofs.Ytofjgdbiieanjaa.Ext Go.Proofs.Ytofjgdbiieanjaa.Bits Go.Proofs.YtofjgdbiieanjaaW.PrintWords Go.Proofs.YtofjgdbiieanjaaW.PrintLast Go.Proofs.Ytofjgdbiieanjaa.NetRef Go.Proofs.Ytofjgdbiieanjaa.NetUdp
theorem UdpParses : mantletlaw06_UdpParses.Pure := by
  intro s d l hs hd _ _ hb0
  obtain ⟨s0, s1⟩ := wf_u32 hs
  obtain ⟨d0, d1⟩ := wf_u32 hd
  have hb := short_byte (byte_of hb0)
  have hl := short_length l
  refine ⟨2000, ?_⟩
  have h1 := parse_eq (shortL l) (1950 - (shortL l).length) s0 s1 d0 d1 hb (by omega)
  have h2 := refParse_eq (shortL l) (1950 - (shortL l).length) s0 s1 d0 d1 hb (by omega)
  rw [show 1950 - (shortL l).length + 50 + (shortL l).length = 2000 by omega] at h1 h2
  have h3 := awake_from 1920
  unfold mantletlaw06_UdpParses.f
  rw [short_eq, Option.bind_some, h1, Option.bind_some, Option.bind_some, h2, Option.bind_some, h3, Option.bind_some, if_pos rfl, if_pos rfl, if_pos rfl, beq_self_eq_true]
end Go.Proofs.Ytofjgdbiieanjaa.Pure
