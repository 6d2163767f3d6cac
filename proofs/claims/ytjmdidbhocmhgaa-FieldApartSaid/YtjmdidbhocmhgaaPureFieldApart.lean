/-
  mantletlaw01.FieldApart: a stored field is read back as far as it fits, other bits are unchanged, and restoring it restores the word.
  No condition: any words, any places, any sizes.
-/
import Derived.Test.YtjmdidbhocmhgaaFieldRef
namespace Go.Proofs.Ytjmdidbhocmhgaa.Pure
open Go.RowKit Go.Proofs.Ytjmdidbhocmhgaa.Fld Go.Proofs.Ytjmdidbhocmhgaa.Bits Go.Proofs.YtjmdidbhocmhgaaW.PrintWords Go.Proofs.YtjmdidbhocmhgaaW.PrintLast Go.Proofs.Ytjmdidbhocmhgaa.WordFld
theorem get_put {w a s v : Nat} : putN w a s v / 2 ^ a % 2 ^ s = v % 2 ^ s := by
  rw [← ofB_get, ← ofB_bits]
  apply ofB_congr
  intro i hi
  rw [putN_bit, if_pos (by omega)]
  congr 1
  omega
theorem get_far {w a s v b t : Nat} (h : a + s ≤ b ∨ b + t ≤ a) : putN w a s v / 2 ^ b % 2 ^ t = w / 2 ^ b % 2 ^ t := by
  rw [← ofB_get, ← ofB_get]
  apply ofB_congr
  intro i hi
  rw [putN_bit, if_neg (by omega)]
theorem put_back {w a s v : Nat} : putN (putN w a s v) a s (w / 2 ^ a % 2 ^ s) = w := by
  apply Nat.eq_of_testBit_eq
  intro j
  rw [putN_bit, putN_bit]
  by_cases c : a ≤ j ∧ j < a + s
  · rw [if_pos c, Nat.testBit_mod_two_pow, Nat.testBit_div_two_pow, decide_eq_true (by omega), Bool.true_and]
    congr 1
    omega
  · rw [if_neg c, if_neg c]
theorem apart_end (w v a s : Nat) (hw : w < 2 ^ 64) (hv : v < 2 ^ 64) (h1 : 1 ≤ s) (h : a + s ≤ 64) :
    mantletlaw01_FieldApart.j1 201 (w : Int) (v : Int) (a : Int) (s : Int) ((putN w a s v : Nat) : Int) = some true := by
  have hx := putN_lt (v := v) hw h
  simp only [mantletlaw01_FieldApart.j1]
  rw [awake, Option.bind_some, if_pos rfl, get_nat _ a s hx h1 h, show (0 : Int) = ((0 : Nat) : Int) from rfl, get_nat v 0 s hv h1 (by omega), Option.bind_some, Option.bind_some, get_put, Nat.pow_zero, Nat.div_one, if_pos rfl, get_nat w a s hw h1 h, Option.bind_some, put_eq _ a s _ hx h1 h, Option.bind_some, put_back, beq_self_eq_true]
theorem size_of {x y : Int} (hx : 0 ≤ x ∧ x < 256) (hy : 0 ≤ y ∧ y < 256) : ∃ a s : Nat, wrap64 (Int.tmod x 64) = (a : Int) ∧ wrap64 (64 - wrap64 (Int.tmod x 64)) ≠ 0 ∧
    wrap64 (1 + Int.tmod (wrap64 y) (wrap64 (64 - wrap64 (Int.tmod x 64)))) = (s : Int) ∧ 1 ≤ s ∧ a + s ≤ 64 := by
  have e1 : wrap64 (Int.tmod x 64) = x % 64 := by rw [Int.tmod_eq_emod_of_nonneg hx.1, w64 (by omega) (by omega)]
  have e2 : wrap64 (64 - x % 64) = 64 - x % 64 := w64 (by omega) (by omega)
  have e3 : wrap64 y = y := w64 (by omega) (by omega)
  have p : 0 < 64 - x % 64 := by omega
  have m0 : 0 ≤ y % (64 - x % 64) := Int.emod_nonneg _ (by omega)
  have m1 : y % (64 - x % 64) < 64 - x % 64 := Int.emod_lt_of_pos _ p
  have e4 : wrap64 (1 + Int.tmod y (64 - x % 64)) = 1 + y % (64 - x % 64) := by rw [Int.tmod_eq_emod_of_nonneg hy.1, w64 (by omega) (by omega)]
  rw [e1, e2, e3, e4]
  refine ⟨(x % 64).toNat, (1 + y % (64 - x % 64)).toNat, by omega, by omega, by omega, by omega, by omega⟩
theorem FieldApart : mantletlaw01_FieldApart.Pure := by
  intro w v x y z u hw hv hx hy hz hu
  obtain ⟨w0, w1⟩ := wf_u64 hw
  obtain ⟨v0, v1⟩ := wf_u64 hv
  obtain ⟨w, rfl⟩ := Int.eq_ofNat_of_zero_le w0
  obtain ⟨v, rfl⟩ := Int.eq_ofNat_of_zero_le v0
  obtain ⟨a, s, ea, en, es, s1, has⟩ := size_of (wf_u8 hx) (wf_u8 hy)
  obtain ⟨b, t, eb, em, et, t1, hbt⟩ := size_of (wf_u8 hz) (wf_u8 hu)
  refine ⟨202, ?_⟩
  unfold mantletlaw01_FieldApart.f
  rw [if_neg en, if_neg em, es, et, ea, eb, put_eq w a s v (by omega) s1 has, Option.bind_some, w64 (by omega) (by omega), w64 (by omega) (by omega)]
  have hend := apart_end w v a s (by omega) (by omega) s1 has
  have hfar : ∀ c : Bool, (c = true → a + s ≤ b ∨ b + t ≤ a) → mantletlaw01_FieldApart.j0 202 (w : Int) (v : Int) (a : Int) (s : Int) (b : Int) (t : Int) ((putN w a s v : Nat) : Int) c = some true := by
    intro c hc
    simp only [mantletlaw01_FieldApart.j0]
    cases c with
    | false => rw [if_neg (by decide)]; exact hend
    | true => rw [if_pos rfl, get_nat _ b t (putN_lt (by omega) has) t1 hbt, get_nat w b t (by omega) t1 hbt, Option.bind_some, Option.bind_some, get_far (hc rfl), if_pos rfl]; exact hend
  by_cases c : (a : Int) + (s : Int) ≤ (b : Int)
  · rw [if_pos c]
    exact hfar true (fun _ => .inl (by omega))
  · rw [if_neg c]
    exact hfar _ (fun h => .inr (by have := of_decide_eq_true h; omega))
end Go.Proofs.Ytjmdidbhocmhgaa.Pure
