import Derived.Test.YtplioggeccoleaaKeyx8
import Derived.Test.YtplioggeccoleaaKeyx10
import Derived.Test.YtplioggeccoleaaKeyx20
import Derived.Test.YtplioggeccoleaaKeyx26
import Derived.Test.YtplioggeccoleaaBits
namespace Go.Proofs.Ytplioggeccoleaa.NetKey
open Go.RowKit Go.Proofs.Ytplioggeccoleaa.Key Go.Proofs.Ytplioggeccoleaa.Ext Go.Proofs.Ytplioggeccoleaa.Bits Go.Proofs.YtplioggeccoleaaW.PrintWords Go.Proofs.YtplioggeccoleaaW.PrintLast
/-- cmp.Compare of numbers. -/
def cmp3 (a b : Int) : Int := if a < b then -1 else if a > b then 1 else 0
theorem cmp8 (a b : Int) : cmp_Compare_uint8.f a b = some (cmp3 a b) := by
  unfold cmp_Compare_uint8.f cmp_isNaN_uint8.f cmp3
  simp only [bne_self_eq_false, Option.bind_some, Bool.false_eq_true, if_false]
  split <;> (try rfl)
  split <;> rfl
theorem cmp16 (a b : Int) : cmp_Compare_uint16.f a b = some (cmp3 a b) := by
  unfold cmp_Compare_uint16.f cmp_isNaN_uint16.f cmp3
  simp only [bne_self_eq_false, Option.bind_some, Bool.false_eq_true, if_false]
  split <;> (try rfl)
  split <;> rfl
theorem cmp32 (a b : Int) : cmp_Compare_uint32.f a b = some (cmp3 a b) := by
  unfold cmp_Compare_uint32.f cmp_isNaN_uint32.f cmp3
  simp only [bne_self_eq_false, Option.bind_some, Bool.false_eq_true, if_false]
  split <;> (try rfl)
  split <;> rfl
def orL : List Int → Int
  | [] => 0
  | x :: xs => if x = 0 then orL xs else x
theorem rd_at {l : List Int} {i : Nat} (h : i < l.length) : l.drop i = rd l (i : Int) :: l.drop (i + 1) := by
  rw [List.drop_eq_getElem_cons h]
  unfold rd
  rw [Int.toNat_natCast, List.getD_eq_getElem?_getD, List.getElem?_eq_getElem h]
  rfl
theorem or_loop (l : List Int) (hl : l.length < 1000) (d : Nat) : ∀ (k i : Nat), i + d = l.length → cmp_Or_int.l0 (k + 1 + d) 0 l (l.length : Int) (i : Int) = some (orL (l.drop i)) := by
  induction d with
  | zero =>
    intro k i h
    simp only [cmp_Or_int.l0]
    rw [if_neg (by omega), List.drop_of_length_le (by omega)]
    rfl
  | succ d ih =>
    intro k i h
    rw [show k + 1 + (d + 1) = (k + 1 + d) + 1 by omega]
    simp only [cmp_Or_int.l0]
    have hw : wrap64 ((i : Int) + 1) = ((i + 1 : Nat) : Int) := by unfold wrap64; omega
    rw [if_pos (by omega), if_pos (by omega), if_pos (by omega), hw, rd_at (show i < l.length by omega), ih k (i + 1) (by omega)]
    simp only [orL]
    split <;> rfl
theorem or_eq (l : List Int) (k : Nat) (hl : l.length < 9) : cmp_Or_int.f (k + 10) l = some (orL l) := by
  unfold cmp_Or_int.f
  have h := or_loop l (by omega) l.length (k + 9 - l.length) 0 (by omega)
  rw [show k + 9 - l.length + 1 + l.length = k + 10 by omega] at h
  exact h
/-- Is a packet's flow turned? -/
def turned (s d p q : Int) : Bool := decide (d < s ∨ (d = s ∧ q < p))
theorem of_eq (k : Nat) (a0 a1 a2 a3 a4 a5 a6 : Int) : key_Of.f (k + 10) a0 a1 a2 a3 a4 a5 a6 =
    some (if turned a1 a2 a3 a4 = true then (a2, a1, a4, a3, a0, true) else (a1, a2, a3, a4, a0, false)) := by
  unfold key_Of.f
  simp only [cmp32, cmp16, Option.bind_some]
  rw [or_eq _ k (by simp)]
  simp only [Option.bind_some, orL, cmp3, turned]
  by_cases h1 : a2 < a1
  · simp [h1]
  · by_cases h2 : a2 > a1
    · have h3 : ¬ a2 = a1 := by omega
      simp [h1, h2, h3]
    · have h3 : a2 = a1 := by omega
      subst h3
      by_cases h4 : a4 < a3
      · simp [h4]
      · by_cases h5 : a4 > a3
        · simp [h4, h5]
        · simp [h4, h5]
theorem end_eq {a p : Int} (a0 : 0 ≤ a) (a1 : a < 4294967296) (p0 : 0 ≤ p) (p1 : p < 65536) : mantletref10_end.f a p = some (a * 65536 + p) := by
  unfold mantletref10_end.f
  simp only [wrap_u64]
  congr 1
  omega
theorem refOf_eq {a1 a2 a3 a4 : Int} (a0 a5 a6 : Int) (s0 : 0 ≤ a1) (s1 : a1 < 4294967296) (d0 : 0 ≤ a2) (d1 : a2 < 4294967296) (p0 : 0 ≤ a3) (p1 : a3 < 65536) (q0 : 0 ≤ a4) (q1 : a4 < 65536) :
    mantletref10_Of.f a0 a1 a2 a3 a4 a5 a6 = some (if turned a1 a2 a3 a4 = true then (a2, a1, a4, a3, a0, true) else (a1, a2, a3, a4, a0, false)) := by
  unfold mantletref10_Of.f
  rw [end_eq s0 s1 p0 p1, end_eq d0 d1 q0 q1]
  simp only [Option.bind_some, turned]
  have e1 : IntKind.u64.wrap (Int.tdiv (a1 * 65536 + a3) 65536) % 4294967296 = a1 := by rw [Int.tdiv_eq_ediv_of_nonneg (by omega), wrap_u64]; omega
  have e2 : IntKind.u64.wrap (Int.tdiv (a2 * 65536 + a4) 65536) % 4294967296 = a2 := by rw [Int.tdiv_eq_ediv_of_nonneg (by omega), wrap_u64]; omega
  have e3 : IntKind.u16.wrap (Int.tmod (a1 * 65536 + a3) 65536) = a3 := by rw [Int.tmod_eq_emod_of_nonneg (by omega), wrap_u16]; omega
  have e4 : IntKind.u16.wrap (Int.tmod (a2 * 65536 + a4) 65536) = a4 := by rw [Int.tmod_eq_emod_of_nonneg (by omega), wrap_u16]; omega
  rw [e1, e2, e3, e4]
  by_cases h : a2 < a1 ∨ (a2 = a1 ∧ a4 < a3)
  · have h2 : a2 * 65536 + a4 < a1 * 65536 + a3 := by omega
    simp [h, h2]
  · have h2 : ¬ a2 * 65536 + a4 < a1 * 65536 + a3 := by omega
    simp [h, h2]
end Go.Proofs.Ytplioggeccoleaa.NetKey
