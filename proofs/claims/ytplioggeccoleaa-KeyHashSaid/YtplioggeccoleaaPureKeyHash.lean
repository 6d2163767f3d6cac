import Derived.Test.YtplioggeccoleaaKeyx27
import Derived.Test.YtplioggeccoleaaNetKeyA
import Derived.Test.YtplioggeccoleaaNetKeyS
namespace Go.Proofs.Ytplioggeccoleaa.Pure
open Go.RowKit Go.Proofs.Ytplioggeccoleaa.Key Go.Proofs.Ytplioggeccoleaa.Ext Go.Proofs.Ytplioggeccoleaa.Bits Go.Proofs.Ytplioggeccoleaa.NetKey Go.Proofs.YtplioggeccoleaaW.PrintWords Go.Proofs.YtplioggeccoleaaW.PrintLast
theorem KeyHash : mantletlaw10_KeyHash.Pure := by
  intro a0 a1 p0 p1 pr b0 b1 q0 q1 qr s h0 h1 h2 h3 h4 g0 g1 g2 g3 g4 hs
  obtain ⟨h00, h01⟩ := wf_u32 h0
  obtain ⟨h10, h11⟩ := wf_u32 h1
  obtain ⟨h20, h21⟩ := wf_u16 h2
  obtain ⟨h30, h31⟩ := wf_u16 h3
  obtain ⟨h40, h41⟩ := wf_u8 h4
  obtain ⟨g00, g01⟩ := wf_u32 g0
  obtain ⟨g10, g11⟩ := wf_u32 g1
  obtain ⟨g20, g21⟩ := wf_u16 g2
  obtain ⟨g30, g31⟩ := wf_u16 g3
  clear h0 h1 h2 h3 h4 g0 g1 g2 g3 g4 hs
  refine ⟨80, ?_⟩
  have e1 : mantletlaw10_awake.f 80 = some true := awake 0
  have e2 := hash_eq 60 h00 h01 h10 h11 h20 h21 h30 h31 h40 h41
  have e3 := refHash_eq h00 h01 h10 h11 h20 h21 h30 h31 h40 h41
  have e4 := stripe_eq 59 s h00 h01 h10 h11 h20 h21 h30 h31 h40 h41
  have e5 := refStripe_eq 66 s h00 h01 h10 h11 h20 h21 h30 h31 h40 h41
  have e6 := less_eq 70 a0 a1 p0 p1 pr b0 b1 q0 q1 qr
  have e7 := refLess_eq pr qr h00 h01 h10 h11 h20 h21 h30 h31 g00 g01 g10 g11 g20 g21 g30 g31
  unfold mantletlaw10_KeyHash.f
  rw [e1, Option.bind_some, if_pos rfl, e2, Option.bind_some, e3, Option.bind_some, if_pos rfl, e4, Option.bind_some, e5, Option.bind_some, if_pos rfl, e6, Option.bind_some, e7, Option.bind_some, beq_self_eq_true]
end Go.Proofs.Ytplioggeccoleaa.Pure
