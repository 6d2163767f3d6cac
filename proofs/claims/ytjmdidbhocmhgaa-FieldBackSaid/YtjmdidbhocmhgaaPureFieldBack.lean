/-
  mantletlaw01.FieldBack: a number that fits is restored from its bytes, and from its bits with sign.
  No condition: any numbers, any size.
-/
import Derived.Test.YtjmdidbhocmhgaaFieldRef
namespace Go.Proofs.Ytjmdidbhocmhgaa.Pure
open Go.RowKit Go.Proofs.Ytjmdidbhocmhgaa.Fld Go.Proofs.Ytjmdidbhocmhgaa.Bits Go.Proofs.YtjmdidbhocmhgaaW.PrintWords Go.Proofs.YtjmdidbhocmhgaaW.PrintLast Go.Proofs.Ytjmdidbhocmhgaa.WordFld
/-- A number that fits comes back of its bits with a sign. -/
theorem sign_back {n : Int} {k : Nat} (h1 : 1 ≤ k) (h : k ≤ 64) (h0 : -((2 ^ (k - 1) : Nat) : Int) ≤ n) (h2 : n < ((2 ^ (k - 1) : Nat) : Int)) :
    field_Sign.f (IntKind.u64.wrap n) (k : Int) = some n := by
  have hh := half k h1
  have h64 : 2 ^ k * 2 ^ (64 - k) = 18446744073709551616 := by rw [← Nat.pow_add, show k + (64 - k) = 64 by omega]
  obtain ⟨u, hu⟩ := Int.eq_ofNat_of_zero_le (show 0 ≤ IntKind.u64.wrap n by rw [wrap_u64]; omega)
  rw [hu, sign_eq u k h1 h]
  have hP0 : 0 < 2 ^ (k - 1) := Nat.two_pow_pos _
  -- the bits of n, below the size
  have hm : ((u % 2 ^ k : Nat) : Int) = n % ((2 ^ k : Nat) : Int) := by
    rw [Int.natCast_emod, ← hu, wrap_u64, show (18446744073709551616 : Int) = ((2 ^ k : Nat) : Int) * ((2 ^ (64 - k) : Nat) : Int) by rw [← Int.natCast_mul, h64]; rfl, Int.emod_emod_of_dvd _ (Int.dvd_mul_right _ _)]
  unfold signV
  generalize hr : u % 2 ^ k = r at *
  generalize hP : 2 ^ (k - 1) = P at *
  rw [hh] at hm ⊢
  by_cases c : 0 ≤ n
  · have e : n % ((2 * P : Nat) : Int) = n := Int.emod_eq_of_lt c (by omega)
    rw [e] at hm
    rw [if_neg (by omega), hm]
  · have e : n % ((2 * P : Nat) : Int) = n + ((2 * P : Nat) : Int) := by
      rw [← Int.add_emod_right, Int.emod_eq_of_lt (by omega) (by omega)]
    rw [e] at hm
    rw [if_pos (by omega), hm]
    congr 1
    omega
theorem wrap_low {T : Nat} (h : T ≤ 9223372036854775808) : wrap64 (-(T : Int)) = -(T : Int) := by unfold wrap64; omega
theorem below_of {T : Nat} {n : Int} (h0 : 0 < T) (h : ¬ n > ((T - 1 : Nat) : Int)) : n < (T : Int) := by omega
theorem FieldBack : mantletlaw01_FieldBack.Pure := by
  intro v x n hv hx _
  obtain ⟨v0, v1⟩ := wf_u64 hv
  obtain ⟨x0, x1⟩ := wf_u8 hx
  obtain ⟨v, rfl⟩ := Int.eq_ofNat_of_zero_le v0
  obtain ⟨s, hs⟩ := Int.eq_ofNat_of_zero_le (show 0 ≤ 1 + x % 8 by omega)
  have es : wrap64 (1 + wrap64 (Int.tmod x 8)) = (s : Int) := by
    rw [Int.tmod_eq_emod_of_nonneg x0, w64 (n := x % 8) (by omega) (by omega), w64 (by omega) (by omega)]
    omega
  have s1 : 1 ≤ s := by omega
  have s8 : s ≤ 8 := by omega
  have ek : wrap64 (8 * (s : Int)) = ((8 * s : Nat) : Int) := by rw [w64 (by omega) (by omega)]; omega
  have e1 : IntKind.u64.wrap (wrap64 (((8 * s : Nat) : Int) - 1)) = ((8 * s - 1 : Nat) : Int) := by rw [w64 (by omega) (by omega), wrap_u64]; omega
  have e2 : IntKind.u64.wrap (wrap64 (64 - ((8 * s : Nat) : Int))) = ((64 - 8 * s : Nat) : Int) := by rw [w64 (by omega) (by omega), wrap_u64]; omega
  refine ⟨200, ?_⟩
  have hlen := bytesL_length v s
  have hcut : cutL (bytesL v s) 0 s = bytesL v s := by
    unfold cutL
    rw [Nat.zero_add, List.drop_zero, List.take_of_length_le (by omega)]
  have hnum := num_yes (bytesL v s) 0 s 189 (bytesL_range v s) s1 s8 (by omega) (by omega)
  rw [hcut, bytesL_num, Int.zero_mul, Int.zero_add] at hnum
  have hget := get_nat v 0 (8 * s) (by omega) (by omega) (by omega)
  rw [Nat.pow_zero, Nat.div_one] at hget
  have hlow : shl .i64 (-1) ((8 * s - 1 : Nat) : Int) = -((2 ^ (8 * s - 1) : Nat) : Int) := by
    have h63 : 2 ^ (8 * s - 1) ≤ 2 ^ 63 := Nat.pow_le_pow_right (by decide) (by omega)
    unfold shl
    rw [show min (((8 * s - 1 : Nat) : Int)).toNat IntKind.i64.bits = 8 * s - 1 by simp [IntKind.bits]; omega, i64_w, Int.neg_mul, Int.one_mul]
    rw [show (2 : Int) ^ (8 * s - 1) = ((2 ^ (8 * s - 1) : Nat) : Int) by simp]
    exact wrap_low (show 2 ^ (8 * s - 1) ≤ 9223372036854775808 from h63)
  have hhigh : wrap64 (shr .u64 9223372036854775807 ((64 - 8 * s : Nat) : Int)) = ((2 ^ (8 * s - 1) - 1 : Nat) : Int) := by
    rw [show (9223372036854775807 : Int) = ((2 ^ 63 - 1 : Nat) : Int) by decide, shr_nat _ _ (by omega)]
    have hq : 0 < 2 ^ (64 - 8 * s) := Nat.two_pow_pos _
    have hp : 0 < 2 ^ (8 * s - 1) := Nat.two_pow_pos _
    have hpq : 2 ^ (8 * s - 1) * 2 ^ (64 - 8 * s) = 2 ^ 63 := by rw [← Nat.pow_add, show 8 * s - 1 + (64 - 8 * s) = 63 by omega]
    have hle : 2 ^ (8 * s - 1) ≤ 2 ^ 63 := Nat.pow_le_pow_right (by decide) (by omega)
    have hd : (2 ^ 63 - 1) / 2 ^ (64 - 8 * s) = 2 ^ (8 * s - 1) - 1 := by
      rw [← hpq, Nat.div_eq_iff hq, Nat.sub_mul, Nat.one_mul]
      have : 1 * 2 ^ (64 - 8 * s) ≤ 2 ^ (8 * s - 1) * 2 ^ (64 - 8 * s) := Nat.mul_le_mul_right _ hp
      omega
    rw [hd, w64 (by omega) (by omega)]
  unfold mantletlaw01_FieldBack.f
  rw [es, ek, e1, e2, cut_yes v s 189 s1 s8, Option.bind_some, show (0 : Int) = ((0 : Nat) : Int) from rfl, hnum, Option.bind_some]
  dsimp only
  rw [if_pos (by omega), if_pos (by omega), awake, Option.bind_some, if_pos rfl, if_pos (by omega), if_pos rfl, hget, Option.bind_some, if_pos rfl, hlow, hhigh]
  by_cases c1 : n < -((2 ^ (8 * s - 1) : Nat) : Int)
  · rw [if_pos c1]
  · rw [if_neg c1]
    by_cases c2 : n > ((2 ^ (8 * s - 1) - 1 : Nat) : Int)
    · rw [if_pos c2]
    · rw [if_neg c2, sign_back (by omega) (by omega) (Int.not_lt.mp c1) (below_of (Nat.two_pow_pos _) c2), Option.bind_some, beq_self_eq_true]
end Go.Proofs.Ytjmdidbhocmhgaa.Pure
