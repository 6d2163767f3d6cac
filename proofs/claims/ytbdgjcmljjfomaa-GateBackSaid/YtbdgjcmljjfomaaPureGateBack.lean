/-
  mantletlaw14.GateBack: Pack and Unpack of a gate are inverse to each other.
  No condition: any gate, any word.
-/
import Derived.Test.YtbdgjcmljjfomaaGateRef
namespace Go.Proofs.Ytbdgjcmljjfomaa.Pure
open Go.RowKit Go.Proofs.Ytbdgjcmljjfomaa.Gat Go.Proofs.Ytbdgjcmljjfomaa.Bits Go.Proofs.YtbdgjcmljjfomaaW.PrintWords Go.Proofs.YtbdgjcmljjfomaaW.PrintLast Go.Proofs.Ytbdgjcmljjfomaa.WordGat

theorem back_pack {w : Int} (h0 : 0 ≤ w) (h2 : w < 18446744073709551616) : packV (w / 4503599627370496) (w / 1099511627776 % 4096) (w % 1099511627776) = some (w, 0) := by
    have e0 : w / 4503599627370496 * 4503599627370496 + w / 1099511627776 % 4096 * 1099511627776 + w % 1099511627776 = w := by omega
    unfold packV
    rw [if_pos (by omega), e0]
theorem back_unpack {v c n : Int} (hb : 0 ≤ v ∧ v ≤ 4095 ∧ 0 ≤ c ∧ c ≤ 4095 ∧ 0 ≤ n ∧ n < 1099511627776) : gate_Unpack.f (v * 4503599627370496 + c * 1099511627776 + n) = some (v, c, n) := by
    rw [unpack_eq (by omega) (by omega)]
    have a1 : (v * 4503599627370496 + c * 1099511627776 + n) / 4503599627370496 = v := by omega
    have a2 : (v * 4503599627370496 + c * 1099511627776 + n) / 1099511627776 % 4096 = c := by omega
    have a3 : (v * 4503599627370496 + c * 1099511627776 + n) % 1099511627776 = n := by omega
    rw [a1, a2, a3]
theorem back_no (v c n w : Int) (h0 : 0 ≤ w) (h2 : w < 18446744073709551616) (hb : ¬ (0 ≤ v ∧ v ≤ 4095 ∧ 0 ≤ c ∧ c ≤ 4095 ∧ 0 ≤ n ∧ n < 1099511627776)) : mantletlaw14_GateBack.f v c n w = some true := by
  unfold mantletlaw14_GateBack.f
  rw [pack_eq, unpack_eq h0 h2]
  simp only [Option.bind_some]
  have e1 : packV v c n = some (0, 1) := by unfold packV; rw [if_neg hb]
  rw [pack_eq, back_pack h0 h2, awake, e1]
  simp only [Option.bind_some]
  rw [if_pos trivial, if_neg (by decide), if_pos trivial, beq_self_eq_true]

theorem back_yes (v c n w : Int) (h0 : 0 ≤ w) (h2 : w < 18446744073709551616) (hb : (0 ≤ v ∧ v ≤ 4095 ∧ 0 ≤ c ∧ c ≤ 4095 ∧ 0 ≤ n ∧ n < 1099511627776)) : mantletlaw14_GateBack.f v c n w = some true := by
  obtain ⟨X, e1, e3⟩ : ∃ X, packV v c n = some (X, 0) ∧ gate_Unpack.f X = some (v, c, n) := ⟨_, by unfold packV; rw [if_pos hb], back_unpack hb⟩
  unfold mantletlaw14_GateBack.f
  rw [pack_eq, unpack_eq h0 h2]
  rw [e1, Option.bind_some, Option.bind_some]
  dsimp only
  rw [pack_eq, back_pack h0 h2, awake, Option.bind_some, Option.bind_some]
  dsimp only
  rw [if_pos rfl, if_pos rfl, e3, Option.bind_some]
  dsimp only
  rw [if_pos (by simp), if_pos rfl, beq_self_eq_true]
theorem GateBack : mantletlaw14_GateBack.Pure := by
  intro v c n w _ _ _ hw
  obtain ⟨h0, h2⟩ := wf_u64 hw
  by_cases hb : 0 ≤ v ∧ v ≤ 4095 ∧ 0 ≤ c ∧ c ≤ 4095 ∧ 0 ≤ n ∧ n < 1099511627776
  · exact back_yes v c n w h0 h2 hb
  · exact back_no v c n w h0 h2 hb
end Go.Proofs.Ytbdgjcmljjfomaa.Pure
