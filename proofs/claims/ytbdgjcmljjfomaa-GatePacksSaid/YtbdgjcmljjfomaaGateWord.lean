import Derived.Test.YtbdgjcmljjfomaaWordGat
namespace Go.Proofs.Ytbdgjcmljjfomaa.WordGat
open Go.RowKit Go.Proofs.Ytbdgjcmljjfomaa.Gat Go.Proofs.Ytbdgjcmljjfomaa.Bits Go.Proofs.YtbdgjcmljjfomaaW.PrintWords Go.Proofs.YtbdgjcmljjfomaaW.PrintLast
/-! What the gate's functions come to: three fields of a word. -/
theorem get52 {w : Int} (h0 : 0 ≤ w) (h2 : w < 18446744073709551616) : field_Get.f w 52 12 = some (w / 4503599627370496 % 4096) := by
  have := get_int (w := w) 52 12 h0 h2 (by omega) (by omega)
  simpa using this
theorem get40 {w : Int} (h0 : 0 ≤ w) (h2 : w < 18446744073709551616) : field_Get.f w 40 12 = some (w / 1099511627776 % 4096) := by
  have := get_int (w := w) 40 12 h0 h2 (by omega) (by omega)
  simpa using this
theorem get0 {w : Int} (h0 : 0 ≤ w) (h2 : w < 18446744073709551616) : field_Get.f w 0 40 = some (w % 1099511627776) := by
  have := get_int (w := w) 0 40 h0 h2 (by omega) (by omega)
  simpa using this
theorem put0 {w v : Int} (h0 : 0 ≤ w) (h2 : w < 18446744073709551616) (h3 : 0 ≤ v) (h4 : v < 1099511627776) : field_Put.f w 0 40 v = some (w / 1099511627776 * 1099511627776 + v) := by
  have := put_int (w := w) (v := v) 0 40 h0 h2 h3 (by omega) (by omega)
  simp at this
  rw [this]
  congr 1
  omega
theorem unpack_eq {w : Int} (h0 : 0 ≤ w) (h2 : w < 18446744073709551616) : gate_Unpack.f w = some (w / 4503599627370496, w / 1099511627776 % 4096, w % 1099511627776) := by
  unfold gate_Unpack.f
  rw [get52 h0 h2, get40 h0 h2, get0 h0 h2]
  simp only [Option.bind_some]
  rw [w64 (by omega) (by omega), w64 (by omega) (by omega), w64 (by omega) (by omega)]
  congr 2
  omega
theorem enter_eq {w : Int} (n : Int) (h0 : 0 ≤ w) (h2 : w < 18446744073709551616) :
    gate_Enter.f w n = if w / 1099511627776 % 4096 ≥ n ∨ w / 1099511627776 % 4096 = 4095 then some (w, false) else some (w + 1099511627776, true) := by
  unfold gate_Enter.f
  rw [unpack_eq h0 h2]
  simp only [Option.bind_some]
  by_cases c : w / 1099511627776 % 4096 ≥ n ∨ w / 1099511627776 % 4096 = 4095
  · rw [if_pos c, if_pos (by unfold mn; split <;> omega)]
  · rw [if_neg c, if_neg (by unfold mn; split <;> omega), wrap_u64]
    congr 2
    omega
theorem leave_eq {w : Int} (h0 : 0 ≤ w) (h2 : w < 18446744073709551616) :
    gate_Leave.f w = if w / 1099511627776 % 4096 = 0 then some (w, false) else some (w - 1099511627776, true) := by
  unfold gate_Leave.f
  rw [unpack_eq h0 h2]
  simp only [Option.bind_some]
  by_cases c : w / 1099511627776 % 4096 = 0
  · rw [if_pos c, if_pos c]
  · rw [if_neg c, if_neg c, wrap_u64]
    congr 2
    omega
theorem swap_eq {w : Int} (h0 : 0 ≤ w) (h2 : w < 18446744073709551616) :
    gate_Swap.f w = if w / 4503599627370496 = 4095 then some (w, false) else some (w + 4503599627370496, true) := by
  unfold gate_Swap.f
  rw [unpack_eq h0 h2]
  simp only [Option.bind_some]
  by_cases c : w / 4503599627370496 = 4095
  · rw [if_pos c, if_pos c]
  · rw [if_neg c, if_neg c, wrap_u64]
    congr 2
    omega
/-- How much the clock goes on. -/
def ticked (w n : Int) : Int := if n ≤ 0 then w % 1099511627776 else if w % 1099511627776 + n ≥ 1099511627776 then 1099511627775 else w % 1099511627776 + n
theorem ticked_range (w n : Int) : 0 ≤ ticked w n ∧ ticked w n ≤ 1099511627775 ∧ w % 1099511627776 ≤ ticked w n := by unfold ticked; split <;> (try split) <;> omega
theorem tick_eq {w n : Int} (h0 : 0 ≤ w) (h2 : w < 18446744073709551616) :
    gate_Tick.f w n = some (w / 1099511627776 * 1099511627776 + ticked w n) := by
  unfold gate_Tick.f
  rw [unpack_eq h0 h2]
  simp only [Option.bind_some]
  have ht := ticked_range w n
  have e : IntKind.u64.wrap (wrap64 (w % 1099511627776 + (mn (mx n 0) (wrap64 (1099511627775 - w % 1099511627776))))) = ticked w n := by
    rw [wrap_u64, w64 (n := 1099511627775 - w % 1099511627776) (by omega) (by omega)]
    unfold mn mx ticked
    split <;> split <;> split <;> (try split) <;> unfold wrap64 <;> omega
  rw [e, put0 h0 h2 ht.1 (by omega)]
  rfl
end Go.Proofs.Ytbdgjcmljjfomaa.WordGat
