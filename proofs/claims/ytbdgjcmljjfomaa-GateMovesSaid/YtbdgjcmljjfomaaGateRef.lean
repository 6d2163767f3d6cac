import Derived.Test.YtbdgjcmljjfomaaGateWord
namespace Go.Proofs.Ytbdgjcmljjfomaa.WordGat
open Go.RowKit Go.Proofs.Ytbdgjcmljjfomaa.Gat Go.Proofs.Ytbdgjcmljjfomaa.Bits Go.Proofs.YtbdgjcmljjfomaaW.PrintWords Go.Proofs.YtbdgjcmljjfomaaW.PrintLast
/-! What the reference's gates come to; Pack. -/
/-- A gate's word, and whether it may be. -/
def packV (v c k : Int) : Option (Int × Int) := if 0 ≤ v ∧ v ≤ 4095 ∧ 0 ≤ c ∧ c ≤ 4095 ∧ 0 ≤ k ∧ k < 1099511627776 then some (v * 4503599627370496 + c * 1099511627776 + k, 0) else some (0, 1)
theorem pack_eq (v c k : Int) : gate_Pack.f v c k = packV v c k := by
  unfold gate_Pack.f packV
  by_cases h : 0 ≤ v ∧ v ≤ 4095 ∧ 0 ≤ c ∧ c ≤ 4095 ∧ 0 ≤ k ∧ k < 1099511627776
  · rw [if_pos h, if_neg (by unfold mn; split <;> split <;> omega), if_neg (by omega), if_neg (by omega), if_neg (by omega)]
    simp only [wrap_u64]
    have e1 : v % 18446744073709551616 * 4503599627370496 % 18446744073709551616 = v * 4503599627370496 := by omega
    have e2 : c % 18446744073709551616 * 1099511627776 % 18446744073709551616 = c * 1099511627776 := by omega
    have e4 : k % 18446744073709551616 = k := by omega
    simp only [e1, e2, e4]
    rw [or_join 52 (x := v * 4503599627370496) (y := c * 1099511627776) (by omega) (by omega) (by omega) (by omega) (by omega) (by omega), or_join 40 (by omega) (by omega) (by omega) (by omega) (by omega) (by omega)]
  · rw [if_neg h]
    repeat' split
    all_goals first | rfl | (exfalso; simp only [mn] at *; split at * <;> split at * <;> omega)
theorem refPack (v c k : Int) : mantletref14_Pack.f v c k = packV v c k := by
  unfold mantletref14_Pack.f packV
  by_cases h : 0 ≤ v ∧ v ≤ 4095 ∧ 0 ≤ c ∧ c ≤ 4095 ∧ 0 ≤ k ∧ k < 1099511627776
  · rw [if_pos h, if_neg (by omega), if_neg (by omega), if_neg (by omega), if_neg (by omega), if_neg (by omega), if_neg (by omega)]
    simp only [wrap_u64]
    congr 2
    omega
  · rw [if_neg h]
    repeat' split
    all_goals first | rfl | (exfalso; omega)
theorem refUnpack {w : Int} (h0 : 0 ≤ w) (h2 : w < 18446744073709551616) : mantletref14_Unpack.f w = some (w / 4503599627370496, w / 1099511627776 % 4096, w % 1099511627776) := by
  unfold mantletref14_Unpack.f
  rw [Int.tdiv_eq_ediv_of_nonneg h0, Int.tdiv_eq_ediv_of_nonneg h0, wrap_u64, wrap_u64, Int.tmod_eq_emod_of_nonneg (by omega), Int.tmod_eq_emod_of_nonneg h0]
  rw [w64 (by omega) (by omega), w64 (by omega) (by omega), w64 (by omega) (by omega)]
  congr 2
  · omega
  · congr 1; omega
theorem refWith {v c k : Int} (hv : 0 ≤ v) (hv1 : v ≤ 4095) (hc : 0 ≤ c) (hc1 : c ≤ 4095) (hk : 0 ≤ k) (hk1 : k < 1099511627776) : mantletref14_with.f v c k = some (v * 4503599627370496 + c * 1099511627776 + k) := by
  unfold mantletref14_with.f mantletref14_Pack.f
  rw [if_neg (by omega), if_neg (by omega), if_neg (by omega), if_neg (by omega), if_neg (by omega), if_neg (by omega)]
  simp only [Option.bind_some, wrap_u64]
  congr 1
  omega
theorem refEnter {w : Int} (n : Int) (h0 : 0 ≤ w) (h2 : w < 18446744073709551616) :
    mantletref14_Enter.f w n = if w / 1099511627776 % 4096 ≥ n ∨ w / 1099511627776 % 4096 = 4095 then some (w, false) else some (w + 1099511627776, true) := by
  unfold mantletref14_Enter.f
  rw [refUnpack h0 h2]
  simp only [Option.bind_some]
  by_cases c : w / 1099511627776 % 4096 ≥ n
  · rw [if_pos c, if_pos (.inl c)]
  · rw [if_neg c]
    by_cases c2 : w / 1099511627776 % 4096 = 4095
    · rw [if_pos c2, if_pos (.inr c2)]
    · rw [if_neg c2, if_neg (by omega), w64 (by omega) (by omega), refWith (by omega) (by omega) (by omega) (by omega) (by omega) (by omega)]
      simp only [Option.bind_some]
      congr 2
      omega
theorem refLeave {w : Int} (h0 : 0 ≤ w) (h2 : w < 18446744073709551616) :
    mantletref14_Leave.f w = if w / 1099511627776 % 4096 = 0 then some (w, false) else some (w - 1099511627776, true) := by
  unfold mantletref14_Leave.f
  rw [refUnpack h0 h2]
  simp only [Option.bind_some]
  by_cases c : w / 1099511627776 % 4096 = 0
  · rw [if_pos c, if_pos c]
  · rw [if_neg c, if_neg c, w64 (by omega) (by omega), refWith (by omega) (by omega) (by omega) (by omega) (by omega) (by omega)]
    simp only [Option.bind_some]
    congr 2
    omega
theorem refSwap {w : Int} (h0 : 0 ≤ w) (h2 : w < 18446744073709551616) :
    mantletref14_Swap.f w = if w / 4503599627370496 = 4095 then some (w, false) else some (w + 4503599627370496, true) := by
  unfold mantletref14_Swap.f
  rw [refUnpack h0 h2]
  simp only [Option.bind_some]
  by_cases c : w / 4503599627370496 = 4095
  · rw [if_pos c, if_pos c]
  · rw [if_neg c, if_neg c, w64 (by omega) (by omega), refWith (by omega) (by omega) (by omega) (by omega) (by omega) (by omega)]
    simp only [Option.bind_some]
    congr 2
    omega
theorem refTick {w n : Int} (h0 : 0 ≤ w) (h2 : w < 18446744073709551616) :
    mantletref14_Tick.f w n = some (w / 1099511627776 * 1099511627776 + ticked w n) := by
  unfold mantletref14_Tick.f
  rw [refUnpack h0 h2]
  simp only [Option.bind_some]
  by_cases c1 : n ≤ 0
  · rw [if_pos c1]; unfold ticked; rw [if_pos c1]; congr 1; omega
  · rw [if_neg c1]
    by_cases c2 : n > 1099511627776
    · rw [if_pos c2, w64 (by omega) (by omega), if_pos (by omega), refWith (by omega) (by omega) (by omega) (by omega) (by omega) (by omega)]
      simp only [Option.bind_some]
      unfold ticked; rw [if_neg c1, if_pos (by omega)]; congr 1; omega
    · rw [if_neg c2, w64 (by omega) (by omega)]
      by_cases c3 : w % 1099511627776 + n ≥ 1099511627776
      · rw [if_pos c3, refWith (by omega) (by omega) (by omega) (by omega) (by omega) (by omega)]
        simp only [Option.bind_some]
        unfold ticked; rw [if_neg c1, if_pos c3]; congr 1; omega
      · rw [if_neg c3, refWith (by omega) (by omega) (by omega) (by omega) (by omega) (by omega)]
        simp only [Option.bind_some]
        unfold ticked; rw [if_neg c1, if_neg c3]; congr 1; omega
theorem awake : mantletlaw14_awake.f = some true := by kernel_rfl
end Go.Proofs.Ytbdgjcmljjfomaa.WordGat
