import Derived.Test.YtplioggeccoleaaKeyx23
import Derived.Test.YtplioggeccoleaaNetKeyA
namespace Go.Proofs.Ytplioggeccoleaa.Pure
open Go.RowKit Go.Proofs.Ytplioggeccoleaa.Key Go.Proofs.Ytplioggeccoleaa.Ext Go.Proofs.Ytplioggeccoleaa.Bits Go.Proofs.Ytplioggeccoleaa.NetKey Go.Proofs.YtplioggeccoleaaW.PrintWords Go.Proofs.YtplioggeccoleaaW.PrintLast
theorem KeyOf : mantletlaw10_KeyOf.Pure := by
  intro a0 a1 a2 a3 a4 a5 a6 h0 h1 h2 h3 h4 h5 h6
  obtain ⟨s0, s1⟩ := wf_u32 h1
  obtain ⟨d0, d1⟩ := wf_u32 h2
  obtain ⟨p0, p1⟩ := wf_u16 h3
  obtain ⟨q0, q1⟩ := wf_u16 h4
  refine ⟨80, ?_⟩
  unfold mantletlaw10_KeyOf.f
  rw [of_eq 70, refOf_eq a0 a5 a6 s0 s1 d0 d1 p0 p1 q0 q1, awake 0]
  cases turned a1 a2 a3 a4 <;> simp
end Go.Proofs.Ytplioggeccoleaa.Pure
