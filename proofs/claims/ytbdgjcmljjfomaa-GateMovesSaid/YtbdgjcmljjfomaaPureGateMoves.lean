/-
  mantletlaw14.GateMoves: Tick, Enter, Leave and Swap agree with the reference.
  No condition: any word, any numbers.
-/
import Derived.Test.YtbdgjcmljjfomaaGateWord
namespace Go.Proofs.Ytbdgjcmljjfomaa.Pure
open Go.RowKit Go.Proofs.Ytbdgjcmljjfomaa.Gat Go.Proofs.Ytbdgjcmljjfomaa.Bits Go.Proofs.YtbdgjcmljjfomaaW.PrintWords Go.Proofs.YtbdgjcmljjfomaaW.PrintLast Go.Proofs.Ytbdgjcmljjfomaa.WordGat
theorem refUnpack {w : Int} (h0 : 0 ≤ w) (h2 : w < 18446744073709551616) : mantletref14_Unpack.f w = some (w / 4503599627370496, w / 1099511627776 % 4096, w % 1099511627776) := by
  unfold mantletref14_Unpack.f
  rw [Int.tdiv_eq_ediv_of_nonneg h0, Int.tdiv_eq_ediv_of_nonneg h0, wrap_u64, wrap_u64, Int.tmod_eq_emod_of_nonneg (by omega), Int.tmod_eq_emod_of_nonneg h0]
  rw [w64 (by omega) (by omega), w64 (by omega) (by omega), w64 (by omega) (by omega)]
  congr 2
  · omega
  · congr 1; omega
theorem refWith {v c k : Int} (hv : 0 ≤ v) (hv1 : v ≤ 4095) (hc : 0 ≤ c) (hc1 : c ≤ 4095) (hk : 0 ≤ k) (hk1 : k < 1099511627776) : mantletref14_with.f v c k = some (v * 4503599627370496 + c * 1099511627776 + k) := by
  unfold mantletref14_with.f mantletref14_Pack.f
  rw [if_neg (by omega), if_neg (by omega), if_neg (by omega), if_neg (by omega), if_neg (by omega), if_neg (by omega)]
  simp only [Option.bind_some, wrap_u64]
  congr 1
  omega
theorem refEnter {w : Int} (n : Int) (h0 : 0 ≤ w) (h2 : w < 18446744073709551616) :
    mantletref14_Enter.f w n = if w / 1099511627776 % 4096 ≥ n ∨ w / 1099511627776 % 4096 = 4095 then some (w, false) else some (w + 1099511627776, true) := by
  unfold mantletref14_Enter.f
  rw [refUnpack h0 h2]
  simp only [Option.bind_some]
  by_cases c : w / 1099511627776 % 4096 ≥ n
  · rw [if_pos c, if_pos (.inl c)]
  · rw [if_neg c]
    by_cases c2 : w / 1099511627776 % 4096 = 4095
    · rw [if_pos c2, if_pos (.inr c2)]
    · rw [if_neg c2, if_neg (by omega), w64 (by omega) (by omega), refWith (by omega) (by omega) (by omega) (by omega) (by omega) (by omega)]
      simp only [Option.bind_some]
      congr 2
      omega
theorem refLeave {w : Int} (h0 : 0 ≤ w) (h2 : w < 18446744073709551616) :
    mantletref14_Leave.f w = if w / 1099511627776 % 4096 = 0 then some (w, false) else some (w - 1099511627776, true) := by
  unfold mantletref14_Leave.f
  rw [refUnpack h0 h2]
  simp only [Option.bind_some]
  by_cases c : w / 1099511627776 % 4096 = 0
  · rw [if_pos c, if_pos c]
  · rw [if_neg c, if_neg c, w64 (by omega) (by omega), refWith (by omega) (by omega) (by omega) (by omega) (by omega) (by omega)]
    simp only [Option.bind_some]
    congr 2
    omega
theorem refSwap {w : Int} (h0 : 0 ≤ w) (h2 : w < 18446744073709551616) :
    mantletref14_Swap.f w = if w / 4503599627370496 = 4095 then some (w, false) else some (w + 4503599627370496, true) := by
  unfold mantletref14_Swap.f
  rw [refUnpack h0 h2]
  simp only [Option.bind_some]
  by_cases c : w / 4503599627370496 = 4095
  · rw [if_pos c, if_pos c]
  · rw [if_neg c, if_neg c, w64 (by omega) (by omega), refWith (by omega) (by omega) (by omega) (by omega) (by omega) (by omega)]
    simp only [Option.bind_some]
    congr 2
    omega
theorem refTick {w n : Int} (h0 : 0 ≤ w) (h2 : w < 18446744073709551616) :
    mantletref14_Tick.f w n = some (w / 1099511627776 * 1099511627776 + ticked w n) := by
  unfold mantletref14_Tick.f
  rw [refUnpack h0 h2]
  simp only [Option.bind_some]
  by_cases c1 : n ≤ 0
  · rw [if_pos c1]; unfold ticked; rw [if_pos c1]; congr 1; omega
  · rw [if_neg c1]
    by_cases c2 : n > 1099511627776
    · rw [if_pos c2, w64 (by omega) (by omega), if_pos (by omega), refWith (by omega) (by omega) (by omega) (by omega) (by omega) (by omega)]
      simp only [Option.bind_some]
      unfold ticked; rw [if_neg c1, if_pos (by omega)]; congr 1; omega
    · rw [if_neg c2, w64 (by omega) (by omega)]
      by_cases c3 : w % 1099511627776 + n ≥ 1099511627776
      · rw [if_pos c3, refWith (by omega) (by omega) (by omega) (by omega) (by omega) (by omega)]
        simp only [Option.bind_some]
        unfold ticked; rw [if_neg c1, if_pos c3]; congr 1; omega
      · rw [if_neg c3, refWith (by omega) (by omega) (by omega) (by omega) (by omega) (by omega)]
        simp only [Option.bind_some]
        unfold ticked; rw [if_neg c1, if_neg c3]; congr 1; omega
theorem awake : mantletlaw14_awake.f = some true := by kernel_rfl
theorem GateMoves : mantletlaw14_GateMoves.Pure := by
  intro w n l hw _ _
  obtain ⟨h0, h2⟩ := wf_u64 hw
  unfold mantletlaw14_GateMoves.f
  rw [enter_eq l h0 h2, refEnter l h0 h2]
  rw [leave_eq h0 h2, refLeave h0 h2, swap_eq h0 h2, refSwap h0 h2, awake, tick_eq h0 h2, refTick h0 h2]
  split <;> split <;> split <;> simp
end Go.Proofs.Ytbdgjcmljjfomaa.Pure
