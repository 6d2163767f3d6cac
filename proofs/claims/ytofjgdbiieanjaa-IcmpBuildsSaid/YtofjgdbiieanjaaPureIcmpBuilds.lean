/-
  mantletlaw07.IcmpBuilds: Build agrees with the reference.
-/
import Derived.Test.YtofjgdbiieanjaaAllx17
import Derived.Test.YtofjgdbiieanjaaNetIcmp
namespace Go.Proofs.Ytofjgdbiieanjaa.Pure
open Go.RowKit Go.Proofs.Ytofjgdbiieanjaa.All Go.Proofs.Ytofjgdbiieanjaa.Bits Go.Proofs.YtofjgdbiieanjaaW.PrintWords Go.Proofs.YtofjgdbiieanjaaW.PrintLast Go.Proofs.Ytofjgdbiieanjaa.NetRef Go.Proofs.Ytofjgdbiieanjaa.NetIcmp
theorem IcmpBuilds : mantletlaw07_IcmpBuilds.Pure := by
  intro a i l ha hi _ _ hb0
  obtain ⟨a0, a1⟩ := wf_u8 ha
  obtain ⟨i0, i1⟩ := wf_u16 hi
  have hb := short_byte (byte_of hb0)
  have hl := short_length l
  refine ⟨2000, ?_⟩
  have h1 := build_eq (shortL l) (1960 - (shortL l).length) a0 a1 i0 i1 hb (by omega)
  have h2 := refBuild_eq (shortL l) (1960 - (shortL l).length) a0 a1 i0 i1 hb (by omega)
  rw [show 1960 - (shortL l).length + 40 + (shortL l).length = 2000 by omega] at h1 h2
  have h3 := awake_from 1940
  unfold mantletlaw07_IcmpBuilds.f
  rw [short_eq, Option.bind_some, h1, Option.bind_some, Option.bind_some, h2, Option.bind_some, h3, Option.bind_some, if_pos rfl, if_pos rfl, beq_self_eq_true]
end Go.Proofs.Ytofjgdbiieanjaa.Pure
