/-
  mantletlaw06.UdpBuilds: Build agrees with the reference.
-/
import Derived.Test.YtofjgdbiieanjaaBackUdpBuilds
import Derived.Test.YtofjgdbiieanjaaNetUdpA
import Derived.Test.YtofjgdbiieanjaaNetUdpB
namespace Go.Proofs.Ytofjgdbiieanjaa.Pure
open Go.RowKit Go.Proofs.Ytofjgdbiieanjaa.All Go.Proofs.Ytofjgdbiieanjaa.Ext Go.Proofs.Ytofjgdbiieanjaa.Bits Go.Proofs.YtofjgdbiieanjaaW.PrintWords Go.Proofs.YtofjgdbiieanjaaW.PrintLast Go.Proofs.Ytofjgdbiieanjaa.NetRef Go.Proofs.Ytofjgdbiieanjaa.NetUdp
theorem UdpBuilds : mantletlaw06_UdpBuilds.Pure := by
  intro s d f t l hs hd hf ht _ _ hb0
  obtain ⟨s0, s1⟩ := wf_u32 hs
  obtain ⟨d0, d1⟩ := wf_u32 hd
  obtain ⟨f0, f1⟩ := wf_u16 hf
  obtain ⟨t0, t1⟩ := wf_u16 ht
  have hb := short_byte (byte_of hb0)
  have hl := short_length l
  refine ⟨2000, ?_⟩
  have h1 := build_eq (s := s) (d := d) (f := f) (t := t) (shortL l) (1920 - (shortL l).length) s0 s1 d0 d1 f0 f1 t0 t1 hb (by omega)
  have h2 := refBuild_eq (s := s) (d := d) (f := f) (t := t) (shortL l) (1920 - (shortL l).length) s0 s1 d0 d1 f0 f1 t0 t1 hb (by omega)
  rw [show 1920 - (shortL l).length + 80 + (shortL l).length = 2000 by omega] at h1 h2
  have h3 := awake_from 1920
  unfold mantletlaw06_UdpBuilds.f
  rw [short_eq, Option.bind_some, h1, Option.bind_some, Option.bind_some, h2, Option.bind_some, h3, Option.bind_some, if_pos rfl, if_pos rfl, beq_self_eq_true]
end Go.Proofs.Ytofjgdbiieanjaa.Pure
