/-
  mantletlaw15.FlowBack: Pack and Unpack of a flow are inverse to each other.
  No condition: any flow, any word.
-/
import Derived.Test.YtbdgjcmljjfomaaFlowWord
namespace Go.Proofs.Ytbdgjcmljjfomaa.Pure
open Go.RowKit Go.Proofs.Ytbdgjcmljjfomaa.Flo Go.Proofs.Ytbdgjcmljjfomaa.Bits Go.Proofs.YtbdgjcmljjfomaaW.PrintWords Go.Proofs.YtbdgjcmljjfomaaW.PrintLast Go.Proofs.Ytbdgjcmljjfomaa.WordFlo

theorem back_pack {w : Int} (h0 : 0 ≤ w) (h2 : w < 18446744073709551616) : packV (w / 1152921504606846976) (w / 1099511627776 % 1048576) (w % 1099511627776) = some (w, 0) := by
    have e0 : w / 1152921504606846976 * 1152921504606846976 + w / 1099511627776 % 1048576 * 1099511627776 + w % 1099511627776 = w := by omega
    unfold packV
    rw [if_pos (by omega), e0]
theorem back_unpack {v c n : Int} (hb : 0 ≤ v ∧ v ≤ 15 ∧ 0 ≤ c ∧ c ≤ 1048575 ∧ 0 ≤ n ∧ n < 1099511627776) : flow_Unpack.f (v * 1152921504606846976 + c * 1099511627776 + n) = some (v, c, n) := by
    rw [unpack_eq (by omega) (by omega)]
    have a1 : (v * 1152921504606846976 + c * 1099511627776 + n) / 1152921504606846976 = v := by omega
    have a2 : (v * 1152921504606846976 + c * 1099511627776 + n) / 1099511627776 % 1048576 = c := by omega
    have a3 : (v * 1152921504606846976 + c * 1099511627776 + n) % 1099511627776 = n := by omega
    rw [a1, a2, a3]
theorem back_no (v c n w : Int) (h0 : 0 ≤ w) (h2 : w < 18446744073709551616) (hb : ¬ (0 ≤ v ∧ v ≤ 15 ∧ 0 ≤ c ∧ c ≤ 1048575 ∧ 0 ≤ n ∧ n < 1099511627776)) : mantletlaw15_FlowBack.f v c n w = some true := by
  unfold mantletlaw15_FlowBack.f
  rw [pack_eq, unpack_eq h0 h2]
  simp only [Option.bind_some]
  have e1 : packV v c n = some (0, 1) := by unfold packV; rw [if_neg hb]
  rw [pack_eq, back_pack h0 h2, awake, e1]
  simp only [Option.bind_some]
  rw [if_pos trivial, if_neg (by decide), if_pos trivial, beq_self_eq_true]

theorem back_yes (v c n w : Int) (h0 : 0 ≤ w) (h2 : w < 18446744073709551616) (hb : (0 ≤ v ∧ v ≤ 15 ∧ 0 ≤ c ∧ c ≤ 1048575 ∧ 0 ≤ n ∧ n < 1099511627776)) : mantletlaw15_FlowBack.f v c n w = some true := by
  obtain ⟨X, e1, e3⟩ : ∃ X, packV v c n = some (X, 0) ∧ flow_Unpack.f X = some (v, c, n) := ⟨_, by unfold packV; rw [if_pos hb], back_unpack hb⟩
  unfold mantletlaw15_FlowBack.f
  rw [pack_eq, unpack_eq h0 h2]
  rw [e1, Option.bind_some, Option.bind_some]
  dsimp only
  rw [pack_eq, back_pack h0 h2, awake, Option.bind_some, Option.bind_some]
  dsimp only
  rw [if_pos rfl, if_pos rfl, e3, Option.bind_some]
  dsimp only
  rw [if_pos (by simp), if_pos rfl, beq_self_eq_true]
theorem FlowBack : mantletlaw15_FlowBack.Pure := by
  intro v c n w _ _ _ hw
  obtain ⟨h0, h2⟩ := wf_u64 hw
  by_cases hb : 0 ≤ v ∧ v ≤ 15 ∧ 0 ≤ c ∧ c ≤ 1048575 ∧ 0 ≤ n ∧ n < 1099511627776
  · exact back_yes v c n w h0 h2 hb
  · exact back_no v c n w h0 h2 hb
end Go.Proofs.Ytbdgjcmljjfomaa.Pure
