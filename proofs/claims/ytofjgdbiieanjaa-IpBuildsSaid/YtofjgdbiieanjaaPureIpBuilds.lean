/-
  mantletlaw04.IpBuilds: Build agrees with the reference.
-/
import Derived.Test.YtofjgdbiieanjaaAllx59
import Derived.Test.YtofjgdbiieanjaaNetIpB
namespace Go.Proofs.Ytofjgdbiieanjaa.Pure
open Go.RowKit Go.Proofs.Ytofjgdbiieanjaa.All Go.Proofs.Ytofjgdbiieanjaa.Ext Go.Proofs.Ytofjgdbiieanjaa.Bits Go.Proofs.YtofjgdbiieanjaaW.PrintWords Go.Proofs.YtofjgdbiieanjaaW.PrintLast Go.Proofs.Ytofjgdbiieanjaa.NetRef Go.Proofs.Ytofjgdbiieanjaa.NetIp
theorem IpBuilds : mantletlaw04_IpBuilds.Pure := by
  intro p s d z1 z2 t i l hp hs hd _ _ ht hi _ _ hb0
  obtain ⟨p0, p1⟩ := wf_u8 hp
  obtain ⟨s0, s1⟩ := wf_u32 hs
  obtain ⟨d0, d1⟩ := wf_u32 hd
  obtain ⟨t0, t1⟩ := wf_u8 ht
  obtain ⟨i0, i1⟩ := wf_u16 hi
  have hl := short_length l
  refine ⟨80, ?_⟩
  have h1 := build_eq z1 z2 (shortL l) 0 p0 p1 s0 s1 d0 d1 t0 t1 i0 i1 (by omega)
  have h2 := refBuild_eq z1 z2 (shortL l) 0 p0 p1 s0 s1 d0 d1 t0 t1 i0 i1 (by omega)
  unfold mantletlaw04_IpBuilds.f
  rw [short_eq, Option.bind_some, h1, Option.bind_some, Option.bind_some, h2, Option.bind_some, awake, Option.bind_some, if_pos rfl, if_pos rfl, beq_self_eq_true]
end Go.Proofs.Ytofjgdbiieanjaa.Pure
