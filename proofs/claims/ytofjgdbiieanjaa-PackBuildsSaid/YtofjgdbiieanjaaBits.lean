import Derived.Test.YtofjgdbiieanjaaV
import Derived.Laws.BitsLemmas
namespace Go.Proofs.Ytofjgdbiieanjaa.Bits
open Go.RowKit Go.Proofs.YtofjgdbiieanjaaW.PrintWords Go.Proofs.YtofjgdbiieanjaaW.PrintLast
/-! Whole numbers and their bits: plain laws, no program in sight. -/

theorem wrap_u64 (n : Int) : IntKind.u64.wrap n = n % 18446744073709551616 := by simp [IntKind.wrap, IntKind.bits, IntKind.signed]
theorem wrap_u16 (n : Int) : IntKind.u16.wrap n = n % 65536 := by simp [IntKind.wrap, IntKind.bits, IntKind.signed]
theorem wrap_u32 (n : Int) : IntKind.u32.wrap n = n % 4294967296 := by simp [IntKind.wrap, IntKind.bits, IntKind.signed]
theorem wrap_u8 (n : Int) : IntKind.u8.wrap n = n % 256 := by simp [IntKind.wrap, IntKind.bits, IntKind.signed]
theorem w64 {n : Int} (h0 : -9223372036854775808 ≤ n) (h1 : n ≤ 9223372036854775807) : wrap64 n = n := by unfold wrap64; omega

theorem wf_u64 {x : Int} (h : (Lit.int .u64 x).wf = true) : 0 ≤ x ∧ x < 18446744073709551616 := by
  simp [Lit.wf, IntKind.min, IntKind.max, IntKind.signed, IntKind.bits] at h; omega
theorem wf_u32 {x : Int} (h : (Lit.int .u32 x).wf = true) : 0 ≤ x ∧ x < 4294967296 := by
  simp [Lit.wf, IntKind.min, IntKind.max, IntKind.signed, IntKind.bits] at h; omega
theorem wf_u16 {x : Int} (h : (Lit.int .u16 x).wf = true) : 0 ≤ x ∧ x < 65536 := by
  simp [Lit.wf, IntKind.min, IntKind.max, IntKind.signed, IntKind.bits] at h; omega
theorem wf_u8 {x : Int} (h : (Lit.int .u8 x).wf = true) : 0 ≤ x ∧ x < 256 := by
  simp [Lit.wf, IntKind.min, IntKind.max, IntKind.signed, IntKind.bits] at h; omega
theorem wf_i64 {x : Int} (h : (Lit.int .i64 x).wf = true) : -9223372036854775808 ≤ x ∧ x ≤ 9223372036854775807 := by
  simp [Lit.wf, IntKind.min, IntKind.max, IntKind.signed, IntKind.bits] at h; omega

theorem nat_of {x : Int} {n : Nat} (h0 : 0 ≤ x) (h1 : x < (n : Int)) : ∃ a : Nat, x = (a : Int) ∧ a < n := by
  obtain ⟨a, rfl⟩ := Int.eq_ofNat_of_zero_le h0
  exact ⟨a, rfl, by omega⟩

/-- An unsigned kind keeps what fits. -/
theorem wrap_nat (k : IntKind) (hk : k.signed = false) (n : Nat) (h : n < 2 ^ k.bits) : k.wrap (n : Int) = (n : Int) := by
  have h1 : ((n : Int)) % (2 ^ k.bits : Int) = n := by
    rw [show (2 ^ k.bits : Int) = ((2 ^ k.bits : Nat) : Int) by simp, ← Int.natCast_emod, Nat.mod_eq_of_lt h]
  simp [IntKind.wrap, hk, h1]
theorem bits_nats (k : IntKind) (hk : k.signed = false) (a b : Nat) (ha : a < 2 ^ k.bits) (hb : b < 2 ^ k.bits) :
    bits .and k a b = ((a &&& b : Nat) : Int) ∧ bits .or k a b = ((a ||| b : Nat) : Int) ∧ bits .xor k a b = ((a ^^^ b : Nat) : Int) ∧ bits .andNot k a b = ((a ^^^ (a &&& b) : Nat) : Int) := by
  have ha' : a % 2 ^ k.bits = a := Nat.mod_eq_of_lt ha
  have hb' : b % 2 ^ k.bits = b := Nat.mod_eq_of_lt hb
  refine ⟨?_, ?_, ?_, ?_⟩
  · simp only [bits, BitVec.ofInt_natCast, BitVec.toNat_and, BitVec.toNat_ofNat, ha', hb']
    exact wrap_nat k hk _ (Nat.and_lt_two_pow _ hb)
  · simp only [bits, BitVec.ofInt_natCast, BitVec.toNat_or, BitVec.toNat_ofNat, ha', hb']
    exact wrap_nat k hk _ (Nat.or_lt_two_pow ha hb)
  · simp only [bits, BitVec.ofInt_natCast, BitVec.toNat_xor, BitVec.toNat_ofNat, ha', hb']
    exact wrap_nat k hk _ (Nat.xor_lt_two_pow ha hb)
  · have e : ((BitVec.ofNat k.bits a) &&& ~~~(BitVec.ofNat k.bits b)) = BitVec.ofNat k.bits (a ^^^ (a &&& b)) := by
      apply BitVec.eq_of_getLsbD_eq
      intro i hi
      rw [BitVec.getLsbD_and, BitVec.getLsbD_not, BitVec.getLsbD_ofNat, BitVec.getLsbD_ofNat, BitVec.getLsbD_ofNat, Nat.testBit_xor, Nat.testBit_and]
      simp only [hi, decide_true, Bool.true_and]
      cases a.testBit i <;> cases b.testBit i <;> rfl
    have h2 : a ^^^ (a &&& b) < 2 ^ k.bits := Nat.xor_lt_two_pow ha (Nat.and_lt_two_pow _ hb)
    simp only [bits, BitVec.ofInt_natCast, e, BitVec.toNat_ofNat, Nat.mod_eq_of_lt h2]
    exact wrap_nat k hk _ h2
theorem and_nat (a b : Nat) (ha : a < 2 ^ 64) (hb : b < 2 ^ 64) : bits .and .u64 a b = ((a &&& b : Nat) : Int) := (bits_nats .u64 rfl a b ha hb).1
theorem or_nat (a b : Nat) (ha : a < 2 ^ 64) (hb : b < 2 ^ 64) : bits .or .u64 a b = ((a ||| b : Nat) : Int) := (bits_nats .u64 rfl a b ha hb).2.1
theorem xor_nat (a b : Nat) (ha : a < 2 ^ 64) (hb : b < 2 ^ 64) : bits .xor .u64 a b = ((a ^^^ b : Nat) : Int) := (bits_nats .u64 rfl a b ha hb).2.2.1
theorem andNot_nat (a b : Nat) (ha : a < 2 ^ 64) (hb : b < 2 ^ 64) : bits .andNot .u64 a b = ((a ^^^ (a &&& b) : Nat) : Int) := (bits_nats .u64 rfl a b ha hb).2.2.2

/-- The number with these bits. -/
def ofB (f : Nat → Bool) : Nat → Nat
  | 0 => 0
  | n + 1 => (f n).toNat * 2 ^ n + ofB f n
theorem ofB_congr {f g : Nat → Bool} : ∀ {n : Nat}, (∀ i, i < n → f i = g i) → ofB f n = ofB g n
  | 0, _ => rfl
  | n + 1, h => by
    rw [ofB, ofB, h n (by omega), ofB_congr (fun i hi => h i (by omega))]
theorem ofB_bits (x : Nat) : ∀ n, ofB x.testBit n = x % 2 ^ n
  | 0 => by simp [ofB, Nat.mod_one]
  | n + 1 => by
    rw [ofB, ofB_bits x n, Nat.pow_succ, Nat.mod_mul, Nat.testBit_eq_decide_div_mod_eq, Nat.mul_comm]
    have : x / 2 ^ n % 2 = 0 ∨ x / 2 ^ n % 2 = 1 := by omega
    rcases this with h | h <;> simp [h] <;> omega
theorem ofB_lt (f : Nat → Bool) : ∀ n, ofB f n < 2 ^ n
  | 0 => by simp [ofB]
  | n + 1 => by
    have := ofB_lt f n
    rw [ofB, Nat.pow_succ]
    cases f n <;> simp <;> omega

/-- One bit, as the references ask for it. -/
theorem bit_of (a i : Nat) (ha : a < 2 ^ 64) (hi : i < 64) : bits .and .u64 (shr .u64 (a : Int) (i : Int)) 1 = ((a.testBit i).toNat : Int) := by
  have h1 : shr .u64 (a : Int) (i : Int) = ((a / 2 ^ i : Nat) : Int) := by
    unfold shr
    rw [show min ((i : Int)).toNat IntKind.u64.bits = i by simp [IntKind.bits]; omega]
    simp
  have h2 : a / 2 ^ i < 2 ^ 64 := Nat.lt_of_le_of_lt (Nat.div_le_self _ _) ha
  rw [h1, show (1 : Int) = ((1 : Nat) : Int) from rfl, and_nat _ _ h2 (by decide)]
  rw [Nat.and_one_is_mod, Nat.testBit_eq_decide_div_mod_eq]
  have : a / 2 ^ i % 2 = 0 ∨ a / 2 ^ i % 2 = 1 := by omega
  rcases this with h | h <;> simp [h]
theorem shr_nat (a i : Nat) (hi : i ≤ 64) : shr .u64 (a : Int) (i : Int) = ((a / 2 ^ i : Nat) : Int) := by
  unfold shr
  rw [show min ((i : Int)).toNat IntKind.u64.bits = i by simp [IntKind.bits]; omega]
  simp
theorem shl_nat (a i : Nat) (hi : i ≤ 64) : shl .u64 (a : Int) (i : Int) = ((a * 2 ^ i % 2 ^ 64 : Nat) : Int) := by
  unfold shl
  rw [show min ((i : Int)).toNat IntKind.u64.bits = i by simp [IntKind.bits]; omega, wrap_u64]
  simp
theorem and_mask (a s : Nat) (ha : a < 2 ^ 64) (hs : s ≤ 64) : bits .and .u64 (a : Int) ((2 ^ s - 1 : Nat) : Int) = ((a % 2 ^ s : Nat) : Int) := by
  have hm : 2 ^ s - 1 < 2 ^ 64 := Nat.lt_of_lt_of_le (Nat.sub_lt (Nat.two_pow_pos s) (by decide)) (Nat.pow_le_pow_right (by decide) hs)
  rw [and_nat a _ ha hm, Nat.and_two_pow_sub_one_eq_mod]
theorem mask_div (s : Nat) (hs : s ≤ 64) : (2 ^ 64 - 1) / 2 ^ (64 - s) = 2 ^ s - 1 := by
  have e : 2 ^ 64 = 2 ^ (64 - s) * 2 ^ s := by rw [← Nat.pow_add]; congr 1; omega
  have hp : 0 < 2 ^ (64 - s) := Nat.two_pow_pos _
  have hq : 0 < 2 ^ s := Nat.two_pow_pos _
  rw [e, Nat.div_eq_iff hp]
  constructor
  · rw [Nat.sub_mul, Nat.mul_comm (2 ^ s)]; omega
  · rw [Nat.sub_mul, Nat.mul_comm (2 ^ s)]
    have : 2 ^ (64 - s) * 1 ≤ 2 ^ (64 - s) * 2 ^ s := Nat.mul_le_mul_left _ hq
    omega
/-- A word with other bits in a place. -/
def putN (w at_ s v : Nat) : Nat := 2 ^ at_ * (2 ^ s * (w / 2 ^ (at_ + s)) + v % 2 ^ s) + w % 2 ^ at_
theorem putN_bit (w at_ s v j : Nat) : (putN w at_ s v).testBit j = if at_ ≤ j ∧ j < at_ + s then v.testBit (j - at_) else w.testBit j := by
  unfold putN
  rw [Nat.testBit_two_pow_mul_add _ (Nat.mod_lt _ (Nat.two_pow_pos _))]
  by_cases h1 : j < at_
  · rw [if_pos h1, if_neg (by omega), Nat.testBit_mod_two_pow]; simp [h1]
  · rw [if_neg h1, Nat.testBit_two_pow_mul_add _ (Nat.mod_lt _ (Nat.two_pow_pos _))]
    by_cases h2 : j - at_ < s
    · rw [if_pos h2, if_pos (by omega), Nat.testBit_mod_two_pow]; simp [h2]
    · rw [if_neg h2, if_neg (by omega), Nat.testBit_div_two_pow]; congr 1; omega
theorem putN_lt {w at_ s v : Nat} (hw : w < 2 ^ 64) (h : at_ + s ≤ 64) : putN w at_ s v < 2 ^ 64 := by
  apply Nat.lt_pow_two_of_testBit
  intro j hj
  rw [putN_bit, if_neg (by omega)]
  exact Nat.testBit_lt_two_pow (Nat.lt_of_lt_of_le hw (Nat.pow_le_pow_right (by decide) hj))
theorem put_nat (w v at_ s : Nat) (h : at_ + s ≤ 64) :
    ((w ^^^ (w &&& ((2 ^ s - 1) * 2 ^ at_))) ||| ((v * 2 ^ at_ % 2 ^ 64) &&& ((2 ^ s - 1) * 2 ^ at_))) = putN w at_ s v := by
  apply Nat.eq_of_testBit_eq
  intro j
  rw [putN_bit, Nat.testBit_or, Nat.testBit_xor, Nat.testBit_and, Nat.testBit_and, Nat.testBit_mul_two_pow, Nat.testBit_mod_two_pow, Nat.testBit_mul_two_pow, Nat.testBit_two_pow_sub_one]
  by_cases h1 : at_ ≤ j ∧ j < at_ + s
  · rw [if_pos h1]
    have a2 : decide (j - at_ < s) = true := decide_eq_true (by omega)
    have a3 : decide (j < 64) = true := decide_eq_true (by omega)
    simp [a2, a3, h1.1]
  · rw [if_neg h1]
    by_cases a1 : at_ ≤ j
    · have a2 : decide (j - at_ < s) = false := decide_eq_false (by omega)
      simp [a2]
    · simp [a1]
theorem mask_lt {at_ s : Nat} (h : at_ + s ≤ 64) : (2 ^ s - 1) * 2 ^ at_ < 2 ^ 64 := by
  have h1 : 2 ^ s * 2 ^ at_ ≤ 2 ^ 64 := by rw [← Nat.pow_add]; exact Nat.pow_le_pow_right (by decide) (by omega)
  have h2 : 0 < 2 ^ at_ := Nat.two_pow_pos _
  rw [Nat.sub_mul]; omega
theorem wraps_u64 (n : Int) (h0 : 0 ≤ n) (h1 : n < 2 ^ 64) : IntKind.u64.wrap n = n := by rw [wrap_u64]; omega
theorem or_join (i : Nat) {x y : Int} (hx0 : 0 ≤ x) (hx : x % 2 ^ i = 0) (hx1 : x < 18446744073709551616) (hy0 : 0 ≤ y) (hy : y < 2 ^ i) (hy1 : y < 18446744073709551616) : bits .or .u64 x y = x + y :=
  bits_join .u64 64 (by decide) wraps_u64 i x y hx0 hx (by omega) hy0 hy (by omega)
end Go.Proofs.Ytofjgdbiieanjaa.Bits
