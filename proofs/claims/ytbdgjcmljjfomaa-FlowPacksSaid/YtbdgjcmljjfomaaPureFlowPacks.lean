/-
  mantletlaw15.FlowPacks: Pack, Unpack and Over of a flow agree with the reference.
  No condition: any flow, any word, any clock.
-/
import Derived.Test.YtbdgjcmljjfomaaFlowWord
namespace Go.Proofs.Ytbdgjcmljjfomaa.Pure
open Go.RowKit Go.Proofs.Ytbdgjcmljjfomaa.Flo Go.Proofs.Ytbdgjcmljjfomaa.Bits Go.Proofs.YtbdgjcmljjfomaaW.PrintWords Go.Proofs.YtbdgjcmljjfomaaW.PrintLast Go.Proofs.Ytbdgjcmljjfomaa.WordFlo
theorem refOver {w : Int} (n : Int) (h0 : 0 ≤ w) (h2 : w < 18446744073709551616) :
    mantletref15_Over.f w n = some (decide (w / 1152921504606846976 = 0 ∨ w / 1152921504606846976 = 15 ∨ w % 1099511627776 ≤ n ∨ w / 1099511627776 % 1048576 = 1048575)) := by
  unfold mantletref15_Over.f
  rw [refUnpack h0 h2, Option.bind_some]
  dsimp only
  rw [Int.tmod_eq_emod_of_nonneg (by omega)]
  by_cases c1 : w / 1152921504606846976 % 15 = 0
  · rw [if_pos c1, decide_eq_true (by omega)]
  · rw [if_neg c1]
    by_cases c2 : w / 1099511627776 % 1048576 = 1048575
    · rw [if_pos c2, decide_eq_true (by omega)]
    · rw [if_neg c2]
      congr 1
      rw [decide_eq_decide]
      omega
theorem FlowPacks : mantletlaw15_FlowPacks.Pure := by
  intro v c n w m _ _ _ hw _
  obtain ⟨h0, h2⟩ := wf_u64 hw
  obtain ⟨X, e, hX⟩ : ∃ X e, packV v c n = some (X, e) := by
    unfold packV
    split
    · exact ⟨_, _, rfl⟩
    · exact ⟨_, _, rfl⟩
  unfold mantletlaw15_FlowPacks.f
  rw [pack_eq, refPack, awake, hX, unpack_eq h0 h2, refUnpack h0 h2, over_eq m h0 h2, refOver m h0 h2, Option.bind_some, Option.bind_some, Option.bind_some]
  dsimp only
  rw [if_pos rfl, if_pos rfl, if_pos rfl, Option.bind_some, Option.bind_some]
  dsimp only
  rw [if_pos (by simp), Option.bind_some, Option.bind_some, beq_self_eq_true]
end Go.Proofs.Ytbdgjcmljjfomaa.Pure
