/-
  mantletlaw05.TcpBuilds: Build, Pseudo and Sane agree with the reference.
-/
import Derived.Test.YtofjgdbiieanjaaAllx33
import Derived.Test.YtofjgdbiieanjaaNetTcpB
namespace Go.Proofs.Ytofjgdbiieanjaa.Pure
open Go.RowKit Go.Proofs.Ytofjgdbiieanjaa.All Go.Proofs.Ytofjgdbiieanjaa.Ext Go.Proofs.Ytofjgdbiieanjaa.Bits Go.Proofs.YtofjgdbiieanjaaW.PrintWords Go.Proofs.YtofjgdbiieanjaaW.PrintLast Go.Proofs.Ytofjgdbiieanjaa.NetRef Go.Proofs.Ytofjgdbiieanjaa.NetTcp
theorem TcpBuilds : mantletlaw05_TcpBuilds.Pure := by
  intro s d f t g l p n hs hd hf ht hg _ _ hb0 hp hn
  obtain ⟨s0, s1⟩ := wf_u32 hs
  obtain ⟨d0, d1⟩ := wf_u32 hd
  obtain ⟨f0, f1⟩ := wf_u16 hf
  obtain ⟨t0, t1⟩ := wf_u16 ht
  obtain ⟨g0, g1⟩ := wf_u8 hg
  obtain ⟨p0, p1⟩ := wf_u8 hp
  have hb := short_byte (byte_of hb0)
  have hl := short_length l
  refine ⟨2000, ?_⟩
  have h1 := build_eq (shortL l) (1920 - (shortL l).length) s0 s1 d0 d1 f0 f1 t0 t1 g0 g1 hb (by omega)
  have h2 := refBuild_eq (shortL l) (1920 - (shortL l).length) s0 s1 d0 d1 f0 f1 t0 t1 g0 g1 hb (by omega)
  rw [show 1920 - (shortL l).length + 80 + (shortL l).length = 2000 by omega] at h1 h2
  have h3 := awake_from 1920
  have h4 := pseudo_eq (n := n) 1960 p0 p1 s0 s1 d0 d1
  have h5 := refPseudo_eq (n := n) 1960 p0 p1 s0 s1 d0 d1
  have h6 := pseudoV_range p s d n
  unfold mantletlaw05_TcpBuilds.f
  rw [short_eq, Option.bind_some, h1, Option.bind_some, Option.bind_some, h2, Option.bind_some, h3, Option.bind_some, if_pos rfl, if_pos rfl, if_pos rfl, sane_eq g0 g1, Option.bind_some, refSane_eq g0 g1, Option.bind_some, beq_self_eq_true, if_pos rfl, h4, Option.bind_some, h5, Option.bind_some, w64 (by omega) (by omega), beq_self_eq_true]
end Go.Proofs.Ytofjgdbiieanjaa.Pure
