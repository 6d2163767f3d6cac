import Derived.Test.YtbdgjcmljjfomaaMatx0
import Derived.Test.YtbdgjcmljjfomaaMatx2
import Derived.Test.YtbdgjcmljjfomaaMatx5
import Derived.Test.YtbdgjcmljjfomaaMatx6
import Derived.Test.YtbdgjcmljjfomaaMatx7
import Derived.Test.YtbdgjcmljjfomaaMatx10
import Derived.Test.YtbdgjcmljjfomaaMatx12
import Derived.Test.YtbdgjcmljjfomaaMatx13
import Derived.Test.YtbdgjcmljjfomaaMatFirst
import Derived.Test.YtbdgjcmljjfomaaBits
namespace Go.Proofs.Ytbdgjcmljjfomaa.NetMatch
open Go.RowKit Go.Proofs.Ytbdgjcmljjfomaa.Mat Go.Proofs.Ytbdgjcmljjfomaa.Bits Go.Proofs.YtbdgjcmljjfomaaW.PrintWords Go.Proofs.YtbdgjcmljjfomaaW.PrintLast
/-! Nets. -/
theorem pow_le32 {m : Nat} (h : m ≤ 32) : 2 ^ m ≤ 4294967296 := Nat.le_trans (Nat.pow_le_pow_right (by decide) h) (by decide)
/-- Is an address in a net? -/
def hasP (a n x : Int) : Bool := decide (0 ≤ n ∧ n ≤ 32 ∧ a.toNat % 2 ^ (32 - n).toNat = 0 ∧ x.toNat / 2 ^ (32 - n).toNat = a.toNat / 2 ^ (32 - n).toNat)
theorem and_u32 (a s : Nat) (ha : a < 4294967296) (hs : s ≤ 32) : Go.bits .and .u32 (a : Int) ((2 ^ s - 1 : Nat) : Int) = ((a % 2 ^ s : Nat) : Int) := by
  have h := pow_le32 hs
  have hm : 2 ^ s - 1 < 4294967296 := by have := Nat.two_pow_pos s; omega
  rw [(bits_nats .u32 rfl a _ (by simpa [IntKind.bits] using ha) (by simpa [IntKind.bits] using hm)).1, Nat.and_two_pow_sub_one_eq_mod]
theorem xor_mod (x m : Nat) : x ^^^ (x % 2 ^ m) = 2 ^ m * (x / 2 ^ m) := by
  apply Nat.eq_of_testBit_eq
  intro j
  rw [Nat.testBit_xor, Nat.testBit_mod_two_pow, Nat.testBit_two_pow_mul, Nat.testBit_div_two_pow]
  by_cases h : j < m
  · simp [h, show ¬ m ≤ j by omega]
  · simp [h, show m ≤ j by omega]
theorem andNot_u32 (a s : Nat) (ha : a < 4294967296) (hs : s ≤ 32) : Go.bits .andNot .u32 (a : Int) ((2 ^ s - 1 : Nat) : Int) = ((2 ^ s * (a / 2 ^ s) : Nat) : Int) := by
  have h := pow_le32 hs
  have hm : 2 ^ s - 1 < 4294967296 := by have := Nat.two_pow_pos s; omega
  rw [(bits_nats .u32 rfl a _ (by simpa [IntKind.bits] using ha) (by simpa [IntKind.bits] using hm)).2.2.2, Nat.and_two_pow_sub_one_eq_mod, xor_mod]
theorem rest_eq (n : Nat) (h : n ≤ 32) : addr_rest.f (n : Int) = some ((2 ^ (32 - n) - 1 : Nat) : Int) := by
  unfold addr_rest.f
  have hp := pow_le32 (show 32 - n ≤ 32 by omega)
  have h0 := Nat.two_pow_pos (32 - n)
  rw [w64 (n := 32 - (n : Int)) (by omega) (by omega), if_pos (by omega), show (32 : Int) - (n : Int) = ((32 - n : Nat) : Int) by omega]
  unfold shl
  rw [Int.toNat_natCast, show min (32 - n) IntKind.u32.bits = 32 - n by simp [IntKind.bits], wrap_u32, show (1 : Int) * 2 ^ (32 - n) = ((2 ^ (32 - n) : Nat) : Int) by simp]
  generalize 2 ^ (32 - n) = q at hp h0
  exact congrArg some (by omega)
theorem has_eq {a x : Int} (n : Int) (a0 : 0 ≤ a) (a1 : a < 4294967296) (x0 : 0 ≤ x) (x1 : x < 4294967296) : addr_Has.f a n x = some (hasP a n x) := by
  obtain ⟨A, rfl⟩ := Int.eq_ofNat_of_zero_le a0
  obtain ⟨X, rfl⟩ := Int.eq_ofNat_of_zero_le x0
  unfold addr_Has.f addr_may.f hasP
  by_cases h0 : n ≥ 0
  · by_cases h1 : n ≤ 32
    · obtain ⟨N, rfl⟩ := Int.eq_ofNat_of_zero_le h0
      have hN : N ≤ 32 := by omega
      rw [if_pos h0, if_pos h1, rest_eq N hN, Option.bind_some, Option.bind_some, and_u32 A _ (by omega) (by omega), show ((32 : Int) - (N : Int)).toNat = 32 - N by omega, Int.toNat_natCast, Int.toNat_natCast]
      have hb : ∀ z : Nat, (((z : Nat) : Int) == 0) = decide (z = 0) := fun z => by rw [Bool.eq_iff_iff]; simp
      rw [hb]
      by_cases h2 : A % 2 ^ (32 - N) = 0
      · rw [if_pos (decide_eq_true h2), Option.bind_some, andNot_u32 X _ (by omega) (by omega)]
        have hA := Nat.div_add_mod A (2 ^ (32 - N))
        rw [h2, Nat.add_zero] at hA
        refine congrArg some ?_
        rw [Bool.eq_iff_iff, beq_iff_eq, decide_eq_true_eq]
        constructor
        · intro e
          refine ⟨h0, h1, h2, ?_⟩
          have e2 : 2 ^ (32 - N) * (X / 2 ^ (32 - N)) = 2 ^ (32 - N) * (A / 2 ^ (32 - N)) := by rw [hA]; exact Int.ofNat_inj.1 e
          exact Nat.eq_of_mul_eq_mul_left (Nat.two_pow_pos _) e2
        · rintro ⟨_, _, _, e⟩
          rw [e, hA]
      · rw [if_neg (by simpa using h2)]
        rw [decide_eq_false (by rintro ⟨_, _, h, _⟩; exact h2 h)]
    · rw [if_pos h0, if_neg h1, Option.bind_some, if_neg (by decide), decide_eq_false (by rintro ⟨_, h, _⟩; exact h1 h)]
  · rw [if_neg h0, Option.bind_some, if_neg (by decide), decide_eq_false (by rintro ⟨h, _⟩; exact h0 h)]
theorem shr_u32 (a i : Nat) (hi : i ≤ 32) : shr .u32 (a : Int) (i : Int) = ((a / 2 ^ i : Nat) : Int) := by
  unfold shr
  rw [show min ((i : Int)).toNat IntKind.u32.bits = i by simp [IntKind.bits]; omega]
  simp
theorem mod_succ (b d : Nat) : b % 2 ^ (d + 1) = 0 ↔ b % 2 = 0 ∧ (b / 2) % 2 ^ d = 0 := by
  rw [Nat.pow_succ, Nat.mul_comm, Nat.mod_mul]
  omega
theorem may_loop (A N : Nat) (hA : A < 4294967296) (hN : N ≤ 32) (d : Nat) : ∀ (k i : Nat), i + d = 32 - N → mantletref03_May.l0 (k + 1 + d) (i : Int) (A : Int) (N : Int) = some (decide (A / 2 ^ i % 2 ^ d = 0)) := by
  induction d with
  | zero =>
    intro k i hi
    simp only [mantletref03_May.l0]
    rw [w64 (n := 32 - (N : Int)) (by omega) (by omega), if_neg (by omega)]
    simp [Nat.mod_one]
  | succ d ih =>
    intro k i hi
    have hd : A / 2 ^ i ≤ A := Nat.div_le_self _ _
    rw [show k + 1 + (d + 1) = (k + 1 + d) + 1 by omega]
    simp only [mantletref03_May.l0]
    rw [w64 (n := 32 - (N : Int)) (by omega) (by omega), if_pos (by omega), wrap_u64, show (i : Int) % 18446744073709551616 = (i : Int) by omega, if_pos (by omega), shr_u32 A i (by omega)]
    have e1 := and_u32 (A / 2 ^ i) 1 (by omega) (by omega)
    rw [show ((2 ^ 1 - 1 : Nat) : Int) = 1 from rfl, Nat.pow_one] at e1
    rw [e1]
    have hs := mod_succ (A / 2 ^ i) d
    rw [Nat.div_div_eq_div_mul, ← Nat.pow_succ] at hs
    by_cases h : A / 2 ^ i % 2 = 1
    · rw [if_pos (by omega), decide_eq_false (fun e => by have := (hs.1 e).1; omega)]
    · rw [if_neg (by omega), w64 (by omega) (by omega), show (i : Int) + 1 = ((i + 1 : Nat) : Int) by omega, ih k (i + 1) (by omega)]
      refine congrArg some ?_
      rw [decide_eq_decide, hs]
      constructor
      · intro e; exact ⟨by omega, e⟩
      · intro e; exact e.2
theorem may_eq (k : Nat) {a n : Int} (a0 : 0 ≤ a) (a1 : a < 4294967296) : mantletref03_May.f (k + 40) a n = some (decide (0 ≤ n ∧ n ≤ 32 ∧ a.toNat % 2 ^ (32 - n).toNat = 0)) := by
  obtain ⟨A, rfl⟩ := Int.eq_ofNat_of_zero_le a0
  unfold mantletref03_May.f
  by_cases h0 : n < 0
  · rw [if_pos h0]
    simp only [mantletref03_May.j0]
    rw [if_pos trivial, decide_eq_false (by omega)]
  · rw [if_neg h0]
    simp only [mantletref03_May.j0]
    by_cases h1 : n > 32
    · rw [decide_eq_true h1, if_pos rfl, decide_eq_false (by omega)]
    · rw [decide_eq_false h1, if_neg (by decide), show (0 : Int) = ((0 : Nat) : Int) from rfl]
      obtain ⟨N, rfl⟩ := Int.eq_ofNat_of_zero_le (show 0 ≤ n by omega)
      have h := may_loop A N (by omega) (by omega) (32 - N) (k + 6 + N) 0 (by omega)
      rw [show k + 6 + N + 1 + (32 - N) = k + 39 by omega, Nat.pow_zero, Nat.div_one] at h
      rw [h, show ((32 : Int) - (N : Int)).toNat = 32 - N by omega, Int.toNat_natCast]
      refine congrArg some ?_
      rw [decide_eq_decide]
      constructor
      · intro e; exact ⟨by omega, by omega, e⟩
      · intro e; exact e.2.2
theorem top_eq (A N : Nat) (hA : A < 4294967296) (hN : N ≤ 32) : mantletref03_top.f (A : Int) (N : Int) = some ((A / 2 ^ (32 - N) : Nat) : Int) := by
  unfold mantletref03_top.f
  by_cases h : (N : Int) = 0
  · obtain rfl : N = 0 := by omega
    rw [if_pos h, Nat.sub_zero, Nat.div_eq_of_lt (by omega)]
    rfl
  · rw [if_neg h, w64 (by omega) (by omega), wrap_u64, show (32 - (N : Int)) % 18446744073709551616 = ((32 - N : Nat) : Int) by omega, if_pos (by omega), shr_u32 A _ (by omega)]
theorem refHas_eq (k : Nat) {a x : Int} (n : Int) (a0 : 0 ≤ a) (a1 : a < 4294967296) (x0 : 0 ≤ x) (x1 : x < 4294967296) : mantletref03_Has.f (k + 40) a n x = some (hasP a n x) := by
  unfold mantletref03_Has.f hasP
  rw [may_eq k a0 a1, Option.bind_some]
  by_cases h : 0 ≤ n ∧ n ≤ 32 ∧ a.toNat % 2 ^ (32 - n).toNat = 0
  · rw [decide_eq_true h, if_pos rfl]
    obtain ⟨h0, h1, h2⟩ := h
    obtain ⟨A, rfl⟩ := Int.eq_ofNat_of_zero_le a0
    obtain ⟨X, rfl⟩ := Int.eq_ofNat_of_zero_le x0
    obtain ⟨N, rfl⟩ := Int.eq_ofNat_of_zero_le h0
    rw [show ((32 : Int) - (N : Int)).toNat = 32 - N by omega, Int.toNat_natCast] at h2
    rw [top_eq A N (by omega) (by omega), top_eq X N (by omega) (by omega), Option.bind_some, Option.bind_some, show ((32 : Int) - (N : Int)).toNat = 32 - N by omega, Int.toNat_natCast, Int.toNat_natCast]
    refine congrArg some ?_
    rw [Bool.eq_iff_iff, beq_iff_eq, decide_eq_true_eq]
    constructor
    · intro e; exact ⟨h0, h1, h2, (Int.ofNat_inj.1 e).symm⟩
    · rintro ⟨_, _, _, e⟩; rw [e]
  · rw [decide_eq_false h, if_neg (by decide), decide_eq_false (fun e => h ⟨e.1, e.2.1, e.2.2.1⟩)]
/-! Rules. -/
/-- Does a packet match a rule? -/
def matchP (p0 p1 p2 p3 p4 : Int) (x : S32) : Bool :=
  (x.f1 == 0 || x.f1 == p0) && (hasP x.f2.f0 x.f2.f1 p1 && (hasP x.f3.f0 x.f3.f1 p2 && (decide (x.f4.f0 ≤ p3 ∧ p3 ≤ x.f4.f1) && decide (x.f5.f0 ≤ p4 ∧ p4 ≤ x.f5.f1))))
theorem in_eq (a b p : Int) : match_in.f a b p = some (decide (a ≤ p ∧ p ≤ b)) := by
  unfold match_in.f
  by_cases h : a ≤ p
  · rw [if_pos h]; simp [h]
  · rw [if_neg h]; simp [h]
/-- A rule as it came. -/
def OkR (x : S32) : Prop := 0 ≤ x.f2.f0 ∧ x.f2.f0 < 4294967296 ∧ 0 ≤ x.f3.f0 ∧ x.f3.f0 < 4294967296
theorem matches_eq {x : S32} {p0 p1 p2 p3 p4 p5 p6 : Int} (hx : OkR x) (h10 : 0 ≤ p1) (h11 : p1 < 4294967296) (h20 : 0 ≤ p2) (h21 : p2 < 4294967296) :
    match_Matches.f x.f0 x.f1 x.f2.f0 x.f2.f1 x.f3.f0 x.f3.f1 x.f4.f0 x.f4.f1 x.f5.f0 x.f5.f1 p0 p1 p2 p3 p4 p5 p6 = some (matchP p0 p1 p2 p3 p4 x) := by
  obtain ⟨a0, a1, b0, b1⟩ := hx
  unfold match_Matches.f matchP
  rw [has_eq _ a0 a1 h10 h11, has_eq _ b0 b1 h20 h21, in_eq, in_eq]
  by_cases h : x.f1 = 0
  · rw [if_pos h]
    cases hasP x.f2.f0 x.f2.f1 p1 <;> cases hasP x.f3.f0 x.f3.f1 p2 <;> cases decide (x.f4.f0 ≤ p3 ∧ p3 ≤ x.f4.f1) <;> simp [h]
  · rw [if_neg h]
    by_cases h2 : x.f1 = p0
    · rw [if_pos h2]
      cases hasP x.f2.f0 x.f2.f1 p1 <;> cases hasP x.f3.f0 x.f3.f1 p2 <;> cases decide (x.f4.f0 ≤ p3 ∧ p3 ≤ x.f4.f1) <;> simp [h2]
    · rw [if_neg h2]
      simp [h, h2]
theorem refMatches_eq (k : Nat) {x : S32} {p0 p1 p2 p3 p4 p5 p6 : Int} (hx : OkR x) (h10 : 0 ≤ p1) (h11 : p1 < 4294967296) (h20 : 0 ≤ p2) (h21 : p2 < 4294967296) :
    mantletref13_Matches.f (k + 41) x.f0 x.f1 x.f2.f0 x.f2.f1 x.f3.f0 x.f3.f1 x.f4.f0 x.f4.f1 x.f5.f0 x.f5.f1 p0 p1 p2 p3 p4 p5 p6 = some (matchP p0 p1 p2 p3 p4 x) := by
  obtain ⟨a0, a1, b0, b1⟩ := hx
  have j1 : ∀ b : Bool, mantletref13_Matches.j1 (k + 40) b x.f0 x.f1 x.f2.f0 x.f2.f1 x.f3.f0 x.f3.f1 x.f4.f0 x.f4.f1 x.f5.f0 x.f5.f1 p0 p1 p2 p3 p4 p5 p6 = some (!b && (decide (x.f4.f0 ≤ p3 ∧ p3 ≤ x.f4.f1) && decide (x.f5.f0 ≤ p4 ∧ p4 ≤ x.f5.f1))) := by
    intro b
    simp only [mantletref13_Matches.j1]
    cases b
    · rw [if_neg (by decide)]
      by_cases c1 : p3 ≥ x.f4.f0 <;> by_cases c2 : p3 ≤ x.f4.f1 <;> by_cases c3 : p4 ≥ x.f5.f0 <;> simp [c1, c2, c3] <;> omega
    · simp
  have j0 : ∀ b : Bool, mantletref13_Matches.j0 (k + 41) b x.f0 x.f1 x.f2.f0 x.f2.f1 x.f3.f0 x.f3.f1 x.f4.f0 x.f4.f1 x.f5.f0 x.f5.f1 p0 p1 p2 p3 p4 p5 p6 = some (!b && (hasP x.f2.f0 x.f2.f1 p1 && (hasP x.f3.f0 x.f3.f1 p2 && (decide (x.f4.f0 ≤ p3 ∧ p3 ≤ x.f4.f1) && decide (x.f5.f0 ≤ p4 ∧ p4 ≤ x.f5.f1))))) := by
    intro b
    simp only [mantletref13_Matches.j0]
    cases b
    · rw [if_neg (by decide), refHas_eq k _ a0 a1 h10 h11, refHas_eq k _ b0 b1 h20 h21, Option.bind_some, Option.bind_some, j1, j1]
      cases hasP x.f2.f0 x.f2.f1 p1 <;> simp
    · simp
  unfold mantletref13_Matches.f matchP
  by_cases h : x.f1 = 0
  · rw [if_pos h, j0]; simp [h]
  · rw [if_neg h, j0]
    have e : (!(x.f1 != p0)) = (x.f1 == p0) := by simp [bne]
    have e2 : (x.f1 == 0) = false := beq_eq_false_iff_ne.2 h
    rw [e, e2, Bool.false_or]
/-! The first one. -/
/-- Where the first one stands, as Go tells it. -/
def at_ : Option Nat → Int
  | none => -1
  | some j => (j : Int)
def first (m : S32 → Bool) (l : List S32) : Int × Bool := match l.findIdx? m with
  | none => (-1, false)
  | some j => ((j : Int), (rd_T32 l (j : Int)).f0)
theorem idx_eq {m : S32 → Bool} {p0 p1 p2 p3 p4 p5 p6 : Int} : ∀ (l : List S32) (i : Int), (∀ x ∈ l, match_Matches.f x.f0 x.f1 x.f2.f0 x.f2.f1 x.f3.f0 x.f3.f1 x.f4.f0 x.f4.f1 x.f5.f0 x.f5.f1 p0 p1 p2 p3 p4 p5 p6 = some (m x)) →
    idxL l i p0 p1 p2 p3 p4 p5 p6 = some (match l.findIdx? m with | none => -1 | some j => i + (j : Int))
  | [], _, _ => rfl
  | x :: l, i, h => by
    rw [idxL, h x List.mem_cons_self, Option.bind_some, List.findIdx?_cons]
    cases hm : m x
    · rw [if_neg (by decide), idx_eq l (i + 1) (fun y hy => h y (List.mem_cons_of_mem _ hy)), if_neg (by decide)]
      cases l.findIdx? m with
      | none => rfl
      | some j => exact congrArg some (show i + 1 + (j : Int) = i + ((j + 1 : Nat) : Int) by omega)
    · rw [if_pos rfl, if_pos rfl]
      exact congrArg some (by simp)
theorem first_eq {m : S32 → Bool} {p0 p1 p2 p3 p4 p5 p6 : Int} (l : List S32) (h : ∀ x ∈ l, match_Matches.f x.f0 x.f1 x.f2.f0 x.f2.f1 x.f3.f0 x.f3.f1 x.f4.f0 x.f4.f1 x.f5.f0 x.f5.f1 p0 p1 p2 p3 p4 p5 p6 = some (m x)) :
    match_First.f l p0 p1 p2 p3 p4 p5 p6 = some (first m l) := by
  unfold match_First.f first
  rw [idx_eq l 0 h, Option.bind_some]
  cases hf : l.findIdx? m with
  | none => rfl
  | some j =>
    have hj : j < l.length := (List.findIdx?_eq_some_iff_getElem.1 hf).1
    have e : (match some j with | none => -1 | some j => 0 + (j : Int)) = (j : Int) := Int.zero_add _
    rw [e, if_pos (by omega), if_pos (by omega)]
theorem rd_at_ {l : List S32} {i : Nat} (h : i < l.length) : rd_T32 l (i : Int) = l[i] := by
  unfold rd_T32
  rw [Int.toNat_natCast, List.getD_eq_getElem?_getD, List.getElem?_eq_getElem h]
  rfl
theorem refFirst_loop {m : S32 → Bool} {p0 p1 p2 p3 p4 p5 p6 : Int} (l : List S32) (hl : l.length ≤ 1000) (h : ∀ k, ∀ x ∈ l, mantletref13_Matches.f (k + 41) x.f0 x.f1 x.f2.f0 x.f2.f1 x.f3.f0 x.f3.f1 x.f4.f0 x.f4.f1 x.f5.f0 x.f5.f1 p0 p1 p2 p3 p4 p5 p6 = some (m x))
    (d : Nat) : ∀ (k i : Nat), i + d = l.length → mantletref13_First.l0 (k + 42 + d) l (i : Int) p0 p1 p2 p3 p4 p5 p6 = some (match (l.drop i).findIdx? m with | none => (-1, false) | some j => (((i + j : Nat) : Int), (rd_T32 l ((i + j : Nat) : Int)).f0)) := by
  induction d with
  | zero =>
    intro k i hi
    simp only [mantletref13_First.l0]
    rw [if_neg (by omega), List.drop_eq_nil_of_le (by omega)]
    rfl
  | succ d ih =>
    intro k i hi
    have hi2 : i < l.length := by omega
    have hx := h (k + d + 1) (rd_T32 l (i : Int)) (by rw [rd_at_ hi2]; exact List.getElem_mem hi2)
    have hq := ih k (i + 1) (by omega)
    rw [show k + 42 + (d + 1) = (k + 42 + d) + 1 by omega]
    rw [show k + d + 1 + 41 = k + 42 + d by omega] at hx
    generalize k + 42 + d = q at hx hq ⊢
    simp only [mantletref13_First.l0]
    rw [if_pos (by omega), if_pos (by omega), hx, Option.bind_some, List.drop_eq_getElem_cons hi2, List.findIdx?_cons, rd_at_ hi2]
    cases hm : m l[i]
    · rw [if_neg (show ¬ (false = true) by decide), if_neg (show ¬ (false = true) by decide), w64 (by omega) (by omega), show (i : Int) + 1 = ((i + 1 : Nat) : Int) by omega, hq]
      cases (l.drop (i + 1)).findIdx? m with
      | none => rfl
      | some j => simp only [Option.map_some, show i + 1 + j = i + (j + 1) by omega]
    · rw [if_pos rfl, if_pos rfl]
      simp only [Nat.add_zero, rd_at_ hi2]
theorem refFirst_eq {m : S32 → Bool} {p0 p1 p2 p3 p4 p5 p6 : Int} (l : List S32) (hl : l.length ≤ 1000) (h : ∀ k, ∀ x ∈ l, mantletref13_Matches.f (k + 41) x.f0 x.f1 x.f2.f0 x.f2.f1 x.f3.f0 x.f3.f1 x.f4.f0 x.f4.f1 x.f5.f0 x.f5.f1 p0 p1 p2 p3 p4 p5 p6 = some (m x)) (k : Nat) :
    mantletref13_First.f (k + 42 + l.length) l p0 p1 p2 p3 p4 p5 p6 = some (first m l) := by
  unfold mantletref13_First.f first
  have e := refFirst_loop l hl h l.length k 0 (by omega)
  rw [show ((0 : Nat) : Int) = 0 from rfl] at e
  rw [e, List.drop_zero]
  cases l.findIdx? m with
  | none => rfl
  | some j => simp only [Nat.zero_add]
/-- At most a hundred. -/
theorem few_eq (l : List S32) : mantletlaw13_few.f l = some (l.take 100) := by
  unfold mantletlaw13_few.f
  by_cases h : (l.length : Int) > 100
  · rw [if_pos h, if_pos (by omega)]
  · rw [if_neg h, List.take_of_length_le (by omega)]
theorem awake : mantletlaw13_awake.f = some true := by kernel_rfl
end Go.Proofs.Ytbdgjcmljjfomaa.NetMatch
