/-
  mantletlaw14.GatePacks: Pack and Unpack of a gate agree with the reference.
  No condition: any gate, any word.
-/
import Derived.Test.YtbdgjcmljjfomaaGateRef
namespace Go.Proofs.Ytbdgjcmljjfomaa.Pure
open Go.RowKit Go.Proofs.Ytbdgjcmljjfomaa.Gat Go.Proofs.Ytbdgjcmljjfomaa.Bits Go.Proofs.YtbdgjcmljjfomaaW.PrintWords Go.Proofs.YtbdgjcmljjfomaaW.PrintLast Go.Proofs.Ytbdgjcmljjfomaa.WordGat
theorem GatePacks : mantletlaw14_GatePacks.Pure := by
  intro v c n w _ _ _ hw
  obtain ⟨h0, h2⟩ := wf_u64 hw
  unfold mantletlaw14_GatePacks.f
  rw [pack_eq, refPack, awake, unpack_eq h0 h2, refUnpack h0 h2]
  by_cases hb : 0 ≤ v ∧ v ≤ 4095 ∧ 0 ≤ c ∧ c ≤ 4095 ∧ 0 ≤ n ∧ n < 1099511627776 <;> simp [packV, hb]
end Go.Proofs.Ytbdgjcmljjfomaa.Pure
