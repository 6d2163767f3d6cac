import Derived.Test.YtbdgjcmljjfomaaWordFlo
namespace Go.Proofs.Ytbdgjcmljjfomaa.WordFlo
open Go.RowKit Go.Proofs.Ytbdgjcmljjfomaa.Flo Go.Proofs.Ytbdgjcmljjfomaa.Bits Go.Proofs.YtbdgjcmljjfomaaW.PrintWords Go.Proofs.YtbdgjcmljjfomaaW.PrintLast
/-! What the flow's functions come to: three fields of a word. -/
theorem get60 {w : Int} (h0 : 0 ≤ w) (h2 : w < 18446744073709551616) : field_Get.f w 60 4 = some (w / 1152921504606846976 % 16) := by
  have := get_int (w := w) 60 4 h0 h2 (by omega) (by omega)
  simpa using this
theorem get40 {w : Int} (h0 : 0 ≤ w) (h2 : w < 18446744073709551616) : field_Get.f w 40 20 = some (w / 1099511627776 % 1048576) := by
  have := get_int (w := w) 40 20 h0 h2 (by omega) (by omega)
  simpa using this
theorem get0 {w : Int} (h0 : 0 ≤ w) (h2 : w < 18446744073709551616) : field_Get.f w 0 40 = some (w % 1099511627776) := by
  have := get_int (w := w) 0 40 h0 h2 (by omega) (by omega)
  simpa using this
theorem put60 {w v : Int} (h0 : 0 ≤ w) (h2 : w < 18446744073709551616) (h3 : 0 ≤ v) : field_Put.f w 60 4 v = some (v % 16 * 1152921504606846976 + w % 1152921504606846976) := by
  have := put_int (w := w) (v := v) 60 4 h0 h2 h3 (by omega) (by omega)
  simp at this
  rw [this]
  congr 1
  omega
theorem put40 {w v : Int} (h0 : 0 ≤ w) (h2 : w < 18446744073709551616) (h3 : 0 ≤ v) (h4 : v < 1048576) : field_Put.f w 40 20 v = some (w / 1152921504606846976 * 1152921504606846976 + v * 1099511627776 + w % 1099511627776) := by
  have := put_int (w := w) (v := v) 40 20 h0 h2 h3 (by omega) (by omega)
  simp at this
  rw [this]
  congr 1
  omega
theorem put0 {w v : Int} (h0 : 0 ≤ w) (h2 : w < 18446744073709551616) (h3 : 0 ≤ v) (h4 : v < 1099511627776) : field_Put.f w 0 40 v = some (w / 1099511627776 * 1099511627776 + v) := by
  have := put_int (w := w) (v := v) 0 40 h0 h2 h3 (by omega) (by omega)
  simp at this
  rw [this]
  congr 1
  omega
theorem unpack_eq {w : Int} (h0 : 0 ≤ w) (h2 : w < 18446744073709551616) : flow_Unpack.f w = some (w / 1152921504606846976, w / 1099511627776 % 1048576, w % 1099511627776) := by
  unfold flow_Unpack.f
  rw [get60 h0 h2, get40 h0 h2, get0 h0 h2]
  simp only [Option.bind_some]
  rw [w64 (by omega) (by omega), w64 (by omega) (by omega), w64 (by omega) (by omega)]
  congr 2
  omega
theorem over_eq {w : Int} (n : Int) (h0 : 0 ≤ w) (h2 : w < 18446744073709551616) :
    flow_Over.f w n = some (decide (w / 1152921504606846976 = 0 ∨ w / 1152921504606846976 = 15 ∨ w % 1099511627776 ≤ n ∨ w / 1099511627776 % 1048576 = 1048575)) := by
  unfold flow_Over.f
  rw [unpack_eq h0 h2, Option.bind_some]
  dsimp only
  by_cases c1 : w / 1152921504606846976 = 0
  · rw [if_pos c1, decide_eq_true (.inl c1)]
  · rw [if_neg c1]
    by_cases c2 : w / 1152921504606846976 = 15
    · rw [if_pos c2, decide_eq_true (.inr (.inl c2))]
    · rw [if_neg c2]
      by_cases c3 : w % 1099511627776 ≤ n
      · rw [if_pos c3, decide_eq_true (.inr (.inr (.inl c3)))]
      · rw [if_neg c3]
        by_cases c4 : w / 1099511627776 % 1048576 = 1048575
        · rw [c4, decide_eq_true (.inr (.inr (.inr rfl)))]; rfl
        · rw [decide_eq_false (by omega), beq_eq_false_iff_ne.mpr c4]
/-- Until when: what the field holds. -/
def till (n : Int) : Int := if n < 0 then 0 else if n ≥ 1099511627776 then 1099511627775 else n
theorem till_range (n : Int) : 0 ≤ till n ∧ till n < 1099511627776 := by unfold till; split <;> (try split) <;> omega
/-- The next number. -/
def onward (s : Int) : Int := if s < 1048575 then s + 1 else s
/-- A flow's word that goes on. -/
def nextV (w s n : Int) : Int := s % 16 * 1152921504606846976 + onward (w / 1099511627776 % 1048576) * 1099511627776 + till n
theorem next_eq {w : Int} (s n : Int) (h0 : 0 ≤ w) (h2 : w < 18446744073709551616) :
    flow_Next.f w s n = some (nextV w s n) := by
  unfold flow_Next.f
  have ht := till_range n
  rw [unpack_eq h0 h2, Option.bind_some]
  dsimp only
  have e1 : IntKind.u64.wrap (mn (wrap64 (w / 1099511627776 % 1048576 + 1)) 1048575) = onward (w / 1099511627776 % 1048576) := by
    rw [w64 (by omega) (by omega), wrap_u64]
    unfold mn onward
    split <;> split <;> omega
  have e2 : (mx 0 (mn n 1099511627775)) = till n := by
    unfold mx mn till
    split <;> split <;> (try split) <;> omega
  have ho : 0 ≤ onward (w / 1099511627776 % 1048576) ∧ onward (w / 1099511627776 % 1048576) < 1048576 := by unfold onward; split <;> omega
  rw [wrap_u64, put60 h0 h2 (by omega), Option.bind_some, e1, e2, put40 (by omega) (by omega) ho.1 ho.2, Option.bind_some, put0 (by omega) (by omega) ht.1 ht.2, Option.bind_some]
  unfold nextV
  congr 1
  omega
/-- A flow's word, and whether it may be. -/
def packV (v c k : Int) : Option (Int × Int) := if 0 ≤ v ∧ v ≤ 15 ∧ 0 ≤ c ∧ c ≤ 1048575 ∧ 0 ≤ k ∧ k < 1099511627776 then some (v * 1152921504606846976 + c * 1099511627776 + k, 0) else some (0, 1)
theorem pack_eq (v c k : Int) : flow_Pack.f v c k = packV v c k := by
  unfold flow_Pack.f packV
  by_cases h : 0 ≤ v ∧ v ≤ 15 ∧ 0 ≤ c ∧ c ≤ 1048575 ∧ 0 ≤ k ∧ k < 1099511627776
  · rw [if_pos h, if_neg (by unfold mn; split <;> split <;> omega), if_neg (by omega), if_neg (by omega), if_neg (by omega)]
    simp only [wrap_u64]
    have e1 : v % 18446744073709551616 * 1152921504606846976 % 18446744073709551616 = v * 1152921504606846976 := by omega
    have e2 : c % 18446744073709551616 * 1099511627776 % 18446744073709551616 = c * 1099511627776 := by omega
    have e3 : k % 18446744073709551616 % 18446744073709551616 = k := by omega
    rw [e1, e2, e3]
    rw [or_join 60 (x := v * 1152921504606846976) (y := c * 1099511627776) (by omega) (by omega) (by omega) (by omega) (by omega) (by omega), or_join 40 (by omega) (by omega) (by omega) (by omega) (by omega) (by omega)]
  · rw [if_neg h]
    repeat' split
    all_goals first | rfl | (exfalso; simp only [mn] at *; split at * <;> split at * <;> omega)
theorem refUnpack {w : Int} (h0 : 0 ≤ w) (h2 : w < 18446744073709551616) : mantletref15_Unpack.f w = some (w / 1152921504606846976, w / 1099511627776 % 1048576, w % 1099511627776) := by
  unfold mantletref15_Unpack.f
  rw [Int.tdiv_eq_ediv_of_nonneg h0, Int.tdiv_eq_ediv_of_nonneg h0, wrap_u64, wrap_u64, Int.tmod_eq_emod_of_nonneg (by omega), Int.tmod_eq_emod_of_nonneg h0]
  rw [w64 (by omega) (by omega), w64 (by omega) (by omega), w64 (by omega) (by omega)]
  congr 2
  · omega
  · congr 1; omega
theorem refPack (v c k : Int) : mantletref15_Pack.f v c k = packV v c k := by
  unfold mantletref15_Pack.f packV
  by_cases h : 0 ≤ v ∧ v ≤ 15 ∧ 0 ≤ c ∧ c ≤ 1048575 ∧ 0 ≤ k ∧ k < 1099511627776
  · rw [if_pos h, if_neg (by omega), if_neg (by omega), if_neg (by omega), if_neg (by omega), if_neg (by omega), if_neg (by omega)]
    simp only [wrap_u64]
    congr 2
    omega
  · rw [if_neg h]
    repeat' split
    all_goals first | rfl | (exfalso; omega)
theorem awake : mantletlaw15_awake.f = some true := by kernel_rfl
end Go.Proofs.Ytbdgjcmljjfomaa.WordFlo
