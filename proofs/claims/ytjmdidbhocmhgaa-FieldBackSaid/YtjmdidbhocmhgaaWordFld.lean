import Derived.Test.YtjmdidbhocmhgaaFldx
import Derived.Test.YtjmdidbhocmhgaaBits
namespace Go.Proofs.Ytjmdidbhocmhgaa.WordFld
open Go.RowKit Go.Proofs.Ytjmdidbhocmhgaa.Fld Go.Proofs.Ytjmdidbhocmhgaa.Bits Go.Proofs.YtjmdidbhocmhgaaW.PrintWords Go.Proofs.YtjmdidbhocmhgaaW.PrintLast
/-! What field.Get and field.Put come to. -/
theorem may_eq {a s : Int} (h1 : -9223372036854775808 ≤ s) (h2 : s ≤ 9223372036854775807) : field_may.f a s = some (decide (0 ≤ a ∧ 1 ≤ s ∧ s ≤ 64 ∧ a ≤ 64 - s)) := by
  unfold field_may.f
  by_cases c1 : a ≥ 0
  · rw [if_pos c1]
    by_cases c2 : s ≥ 1
    · rw [if_pos c2]
      by_cases c3 : s ≤ 64
      · rw [if_pos c3, w64 (by omega) (by omega)]
        congr 1
        rw [decide_eq_decide]
        omega
      · rw [if_neg c3, decide_eq_false (by omega)]
    · rw [if_neg c2, decide_eq_false (by omega)]
  · rw [if_neg c1, decide_eq_false (by omega)]
theorem mask_eq (s : Nat) (h : s ≤ 64) : field_mask.f (s : Int) = some (((2 ^ s - 1 : Nat) : Int)) := by
  unfold field_mask.f
  rw [w64 (by omega) (by omega), if_pos (by omega)]
  rw [show (64 : Int) - (s : Int) = ((64 - s : Nat) : Int) by omega, show (18446744073709551615 : Int) = ((2 ^ 64 - 1 : Nat) : Int) by decide, shr_nat _ _ (by omega), mask_div s h]
theorem get_no {w a s : Int} (h1 : -9223372036854775808 ≤ s) (h2 : s ≤ 9223372036854775807) (h : ¬ (0 ≤ a ∧ 1 ≤ s ∧ s ≤ 64 ∧ a ≤ 64 - s)) : field_Get.f w a s = some 0 := by
  unfold field_Get.f
  rw [may_eq h1 h2, decide_eq_false h]
  simp
theorem get_nat (w a s : Nat) (hw : w < 2 ^ 64) (h1 : 1 ≤ s) (h : a + s ≤ 64) : field_Get.f (w : Int) (a : Int) (s : Int) = some (((w / 2 ^ a % 2 ^ s : Nat) : Int)) := by
  unfold field_Get.f
  rw [may_eq (by omega) (by omega), decide_eq_true (by omega), mask_eq s (by omega)]
  simp only [Option.bind_some, if_true]
  rw [if_pos (by omega), shr_nat _ _ (by omega), and_mask _ _ (Nat.lt_of_le_of_lt (Nat.div_le_self _ _) hw) (by omega)]
theorem put_no {w a s v : Int} (h1 : -9223372036854775808 ≤ s) (h2 : s ≤ 9223372036854775807) (h : ¬ (0 ≤ a ∧ 1 ≤ s ∧ s ≤ 64 ∧ a ≤ 64 - s)) : field_Put.f w a s v = some w := by
  unfold field_Put.f
  rw [may_eq h1 h2, decide_eq_false h]
  simp
theorem put_eq (w a s v : Nat) (hw : w < 2 ^ 64) (h1 : 1 ≤ s) (h : a + s ≤ 64) : field_Put.f (w : Int) (a : Int) (s : Int) (v : Int) = some ((putN w a s v : Nat) : Int) := by
  unfold field_Put.f
  rw [may_eq (by omega) (by omega), decide_eq_true (by omega), mask_eq s (by omega)]
  simp only [Option.bind_some, if_true]
  have hm := mask_lt h
  rw [if_pos (by omega), shl_nat _ _ (by omega), shl_nat _ _ (by omega), Nat.mod_eq_of_lt hm, andNot_nat _ _ hw hm, and_nat _ _ (Nat.mod_lt _ (by decide)) hm,
    or_nat _ _ (Nat.xor_lt_two_pow hw (Nat.and_lt_two_pow _ hm)) (Nat.and_lt_two_pow _ hm), put_nat w v a s h]
/-- The same, at numbers of the kind int. -/
theorem get_int {w : Int} (a s : Nat) (h0 : 0 ≤ w) (h2 : w < 18446744073709551616) (h1 : 1 ≤ s) (h : a + s ≤ 64) : field_Get.f w (a : Int) (s : Int) = some (w / 2 ^ a % 2 ^ s) := by
  obtain ⟨n, rfl⟩ := Int.eq_ofNat_of_zero_le h0
  rw [get_nat n a s (by omega) h1 h]
  simp
theorem put_int {w v : Int} (a s : Nat) (h0 : 0 ≤ w) (h2 : w < 18446744073709551616) (h3 : 0 ≤ v) (h1 : 1 ≤ s) (h : a + s ≤ 64) :
    field_Put.f w (a : Int) (s : Int) v = some (2 ^ a * (2 ^ s * (w / 2 ^ (a + s)) + v % 2 ^ s) + w % 2 ^ a) := by
  obtain ⟨n, rfl⟩ := Int.eq_ofNat_of_zero_le h0
  obtain ⟨u, rfl⟩ := Int.eq_ofNat_of_zero_le h3
  rw [put_eq n a s u (by omega) h1 h]
  simp [putN]
end Go.Proofs.Ytjmdidbhocmhgaa.WordFld
