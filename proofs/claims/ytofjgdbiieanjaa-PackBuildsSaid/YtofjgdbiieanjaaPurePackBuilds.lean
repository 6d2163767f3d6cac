/-
  mantletlaw09.PackBuilds: Build and Good agree with the reference.
  No condition: any packet, any bytes.
-/
import Derived.Test.YtofjgdbiieanjaaAllx76
import Derived.Test.YtofjgdbiieanjaaNetPackA
import Derived.Test.YtofjgdbiieanjaaNetPackR
namespace Go.Proofs.Ytofjgdbiieanjaa.Pure
open Go.RowKit Go.Proofs.Ytofjgdbiieanjaa.All Go.Proofs.Ytofjgdbiieanjaa.Ext Go.Proofs.Ytofjgdbiieanjaa.Bits Go.Proofs.YtofjgdbiieanjaaW.PrintWords Go.Proofs.YtofjgdbiieanjaaW.PrintLast Go.Proofs.Ytofjgdbiieanjaa.NetRef Go.Proofs.Ytofjgdbiieanjaa.NetPack
theorem PackBuilds : mantletlaw09_PackBuilds.Pure := by
  intro a s d x y f k l ha hs hd hx hy hf hk _ _ hb0
  have hF : Fields a s d x y f k := ⟨(wf_u8 ha).1, (wf_u8 ha).2, (wf_u32 hs).1, (wf_u32 hs).2, (wf_u32 hd).1, (wf_u32 hd).2, (wf_u16 hx).1, (wf_u16 hx).2, (wf_u16 hy).1, (wf_u16 hy).2, (wf_u8 hf).1, (wf_u8 hf).2, (wf_u8 hk).1, (wf_u8 hk).2⟩
  have hb := short_byte (byte_of hb0)
  have hl := short_length l
  have hw := awake_from 2920
  have h1 := pack_eq hF (2920 - (shortL l).length) hb (by omega)
  have h2 := refPack_eq hF (2920 - (shortL l).length) hb (by omega)
  rw [show 2920 - (shortL l).length + 80 + (shortL l).length = 3000 by omega] at h1 h2
  refine ⟨3000, ?_⟩
  unfold mantletlaw09_PackBuilds.f
  rw [short_eq, Option.bind_some, h1, Option.bind_some, Option.bind_some, h2, Option.bind_some, hw, Option.bind_some, if_pos rfl, if_pos rfl, if_pos rfl, good_eq hF.f0 hF.f1, Option.bind_some, refGood_eq hF.f0 hF.f1, Option.bind_some, beq_self_eq_true]
end Go.Proofs.Ytofjgdbiieanjaa.Pure
