import Derived.Test.YtofjgdbiieanjaaAllx53
import Derived.Test.YtofjgdbiieanjaaBits
import Derived.Test.YtofjgdbiieanjaaExt
namespace Go.Proofs.Ytofjgdbiieanjaa.NetSum
open Go.RowKit Go.Proofs.Ytofjgdbiieanjaa.All Go.Proofs.Ytofjgdbiieanjaa.Bits Go.Proofs.YtofjgdbiieanjaaW.PrintWords Go.Proofs.YtofjgdbiieanjaaW.PrintLast
/-! What the sums come to: a sum is the rest by 65535, told by 65535 where it is 0 and something was added. -/
def F (n : Int) : Int := if n ≤ 0 then 0 else (n - 1) % 65535 + 1
theorem F_small {n : Int} (h0 : 0 ≤ n) (h : n ≤ 65535) : F n = n := by unfold F; split <;> omega
theorem F_range (n : Int) : 0 ≤ F n ∧ F n ≤ 65535 := by unfold F; split <;> omega
theorem F_add {a b : Int} (ha : 0 ≤ a) (hb : 0 ≤ b) : F (F a + b) = F (a + b) := by
  unfold F; split <;> split <;> (try split) <;> omega
theorem F_fold {n : Int} (h0 : 0 ≤ n) : F (n / 65536 + n % 65536) = F n := by
  unfold F; split <;> split <;> omega
/-- The bytes' weights, from a place on. -/
def WL : Nat → List Int → Int
  | _, [] => 0
  | p, c :: t => (if p % 2 = 0 then 256 * c else c) + WL (p + 1) t
theorem WL_even : ∀ (l : List Int) (p q : Nat), p % 2 = q % 2 → WL p l = WL q l
  | [], _, _, _ => rfl
  | c :: t, p, q, h => by rw [WL, WL, h, WL_even t (p + 1) (q + 1) (by omega)]
theorem WL_append : ∀ (l m : List Int) (p : Nat), WL p (l ++ m) = WL p l + WL (p + l.length) m
  | [], m, p => by simp [WL]
  | c :: t, m, p => by
    rw [List.cons_append, WL, WL, WL_append t m (p + 1), List.length_cons, show p + 1 + t.length = p + (t.length + 1) by omega]
    omega
theorem WL_nonneg : ∀ (l : List Int) (p : Nat), (∀ x ∈ l, 0 ≤ x ∧ x < 256) → 0 ≤ WL p l
  | [], _, _ => by simp [WL]
  | c :: t, p, h => by
    have h1 := h c (List.mem_cons_self ..)
    have h2 := WL_nonneg t (p + 1) (fun x hx => h x (List.mem_cons_of_mem _ hx))
    rw [WL]
    split <;> omega
theorem and_u32 {x : Int} (h0 : 0 ≤ x) (h1 : x < 4294967296) : bits .and .u32 x 65535 = x % 65536 := by
  have h := bits_mask .u32 32 (by decide) (fun n a b => by rw [wrap_u32]; omega) 16 (by decide) x h0 (by omega)
  simpa using h
theorem and_one {x : Int} (h0 : 0 ≤ x) (h1 : x < 9223372036854775808) : bits .and .i64 x 1 = x % 2 := by
  have h := bits_mask .i64 63 (by decide) (fun n a b => by rw [i64_w]; exact w64 (by omega) (by omega)) 1 (by decide) x h0 (by omega)
  simpa using h
theorem not_u16 {x : Int} (h0 : 0 ≤ x) (h1 : x ≤ 65535) : bits .xor .u16 65535 x = 65535 - x := by
  obtain ⟨n, rfl⟩ := Int.eq_ofNat_of_zero_le h0
  have h := (bits_nats .u16 rfl 65535 n (by decide) (by simp [IntKind.bits]; omega)).2.2.1
  rw [show (65535 : Int) = ((65535 : Nat) : Int) from rfl, h]
  have e : 65535 ^^^ n = 65535 - n := by
    apply Nat.eq_of_testBit_eq
    intro i
    have e1 := Nat.testBit_two_pow_sub_succ (x := n) (n := 16) (by omega) i
    rw [show 2 ^ 16 - (n + 1) = 65535 - n by omega] at e1
    rw [e1, Nat.testBit_xor, show (65535 : Nat) = 2 ^ 16 - 1 from rfl, Nat.testBit_two_pow_sub_one]
    by_cases c : i < 16
    · simp [c]
    · have : n.testBit i = false := Nat.testBit_lt_two_pow (Nat.lt_of_lt_of_le (show n < 2 ^ 16 by omega) (Nat.pow_le_pow_right (by decide) (by omega)))
      simp [c, this]
  rw [e]
  omega
theorem fold_eq {n : Int} (k : Nat) (h0 : 0 ≤ n) (h1 : n < 4294967296) : sum_fold.f (k + 4) n = some (F n) := by
  have step : ∀ (m : Nat) (x : Int), 0 ≤ x → x < 4294967296 → sum_fold.l0 (m + 1) x = if x > 65535 then sum_fold.l0 m (x / 65536 + x % 65536) else some x := by
    intro m x a b
    simp only [sum_fold.l0]
    by_cases c : x > 65535
    · rw [if_pos c, if_pos c, and_u32 a b]
      congr 1
      omega
    · rw [if_neg c, if_neg c, wrap_u16]
      congr 1
      omega
  unfold sum_fold.f
  rw [step (k + 3) n h0 h1]
  by_cases c1 : n > 65535
  · rw [if_pos c1, step (k + 2) _ (by omega) (by omega)]
    by_cases c2 : n / 65536 + n % 65536 > 65535
    · rw [if_pos c2, step (k + 1) _ (by omega) (by omega)]
      by_cases c3 : (n / 65536 + n % 65536) / 65536 + (n / 65536 + n % 65536) % 65536 > 65535
      · rw [if_pos c3, step k _ (by omega) (by omega), if_neg (by omega), ← F_fold h0, ← F_fold (show 0 ≤ n / 65536 + n % 65536 by omega), ← F_fold (show 0 ≤ (n / 65536 + n % 65536) / 65536 + (n / 65536 + n % 65536) % 65536 by omega), F_small (by omega) (by omega)]
      · rw [if_neg c3, ← F_fold h0, ← F_fold (show 0 ≤ n / 65536 + n % 65536 by omega), F_small (by omega) (by omega)]
    · rw [if_neg c2, ← F_fold h0, F_small (by omega) (by omega)]
  · rw [if_neg c1, F_small h0 (by omega)]
theorem rd_cons {l : List Int} {i : Nat} (h : i < l.length) : l.drop i = rd l (i : Int) :: l.drop (i + 1) := by
  rw [List.drop_eq_getElem_cons h]
  unfold rd
  rw [Int.toNat_natCast, List.getD_eq_getElem?_getD, List.getElem?_eq_getElem h]
  rfl
theorem rd_range {l : List Int} (hb : ∀ x ∈ l, 0 ≤ x ∧ x < 256) {i : Nat} (h : i < l.length) : 0 ≤ rd l (i : Int) ∧ rd l (i : Int) < 256 := by
  unfold rd
  rw [Int.toNat_natCast, List.getD_eq_getElem?_getD, List.getElem?_eq_getElem h, Option.getD_some]
  exact hb _ (List.getElem_mem h)
theorem drop_range {l : List Int} (hb : ∀ x ∈ l, 0 ≤ x ∧ x < 256) (i : Nat) : ∀ x ∈ l.drop i, 0 ≤ x ∧ x < 256 := fun x hx => hb x (List.mem_of_mem_drop hx)
/-- A byte at its place in a sum. -/
theorem shl_place (i : Nat) {c : Int} (h : (i : Int) < 9223372036854775807) (c0 : 0 ≤ c) (c1 : c < 256) :
    0 ≤ wrap64 (8 * wrap64 (1 - bits .and .i64 (i : Int) 1)) ∧ shl .u32 (c % 4294967296) (wrap64 (8 * wrap64 (1 - bits .and .i64 (i : Int) 1))) = if i % 2 = 0 then 256 * c else c := by
  rw [and_one (by omega) (by omega), w64 (n := 1 - (i : Int) % 2) (by omega) (by omega), w64 (by omega) (by omega)]
  refine ⟨by omega, ?_⟩
  unfold shl
  rw [wrap_u32]
  by_cases e : i % 2 = 0
  · rw [if_pos e, show (8 * (1 - (i : Int) % 2)).toNat = 8 by omega, show min 8 IntKind.u32.bits = 8 from rfl]
    omega
  · rw [if_neg e, show (8 * (1 - (i : Int) % 2)).toNat = 0 by omega, show min 0 IntKind.u32.bits = 0 from rfl]
    omega
theorem add_loop (l : List Int) (hb : ∀ x ∈ l, 0 ≤ x ∧ x < 256) (hl : l.length < 9223372036854775807) (d : Nat) : ∀ (k i : Nat) (s : Int), i + d = l.length → 0 ≤ s → s ≤ 65535 →
    sum_Add.l0 (k + 5 + d) s l (l.length : Int) (i : Int) = some (F (s + WL i (l.drop i))) := by
  induction d with
  | zero =>
    intro k i s h s0 s1
    simp only [sum_Add.l0]
    rw [if_neg (by omega), List.drop_of_length_le (by omega), WL, Int.add_zero, F_small s0 s1]
  | succ d ih =>
    intro k i s h s0 s1
    rw [show k + 5 + (d + 1) = (k + 5 + d) + 1 by omega]
    simp only [sum_Add.l0]
    obtain ⟨r0, r1⟩ := rd_range hb (show i < l.length by omega)
    obtain ⟨p0, p1⟩ := shl_place i (by omega) r0 r1
    have hw := WL_nonneg (l.drop (i + 1)) (i + 1) (drop_range hb (i + 1))
    have hv : 0 ≤ (if i % 2 = 0 then 256 * rd l (i : Int) else rd l (i : Int)) ∧ (if i % 2 = 0 then 256 * rd l (i : Int) else rd l (i : Int)) ≤ 65535 := by split <;> omega
    rw [if_pos (by omega), if_pos (by omega), if_pos (by omega), if_pos p0, p1, rd_cons (show i < l.length by omega), WL]
    generalize (if i % 2 = 0 then 256 * rd l (i : Int) else rd l (i : Int)) = v at *
    have hf := F_range (s + v)
    rw [show (s % 4294967296 + v) % 4294967296 = s + v by omega, show k + 5 + d = (k + 1 + d) + 4 by omega, fold_eq _ (by omega) (by omega), Option.bind_some, w64 (by omega) (by omega), show k + 1 + d + 4 = k + 5 + d by omega]
    have hi := ih k (i + 1) (F (s + v)) (by omega) hf.1 hf.2
    rw [show ((i + 1 : Nat) : Int) = (i : Int) + 1 by omega] at hi
    rw [hi, F_add (by omega) hw]
    congr 2
    omega
theorem add_eq (l : List Int) {s : Int} (k : Nat) (hb : ∀ x ∈ l, 0 ≤ x ∧ x < 256) (hl : l.length < 9223372036854775807) (s0 : 0 ≤ s) (s1 : s ≤ 65535) :
    sum_Add.f (k + 5 + l.length) s l = some (F (s + WL 0 l)) := by
  unfold sum_Add.f
  exact add_loop l hb hl l.length k 0 s (by omega) s0 s1
theorem of_eq (l : List Int) (k : Nat) (hb : ∀ x ∈ l, 0 ≤ x ∧ x < 256) (hl : l.length < 9223372036854775807) :
    sum_Of.f (k + 5 + l.length) l = some (65535 - F (WL 0 l)) := by
  unfold sum_Of.f
  have hf := F_range (WL 0 l)
  rw [add_eq l k hb hl (by omega) (by omega), Option.bind_some, Int.zero_add, not_u16 hf.1 hf.2]
theorem two_eq {a b : Int} (a0 : 0 ≤ a) (a1 : a ≤ 65535) (b0 : 0 ≤ b) (b1 : b ≤ 65535) : mantletref02_Two.f a b = some (F (a + b)) := by
  unfold mantletref02_Two.f
  rw [w64 (by omega) (by omega)]
  by_cases c : a + b > 65535
  · rw [if_pos c, w64 (by omega) (by omega)]
    congr 1
    unfold F
    rw [if_neg (by omega)]
    omega
  · rw [if_neg c, F_small (by omega) (by omega)]
theorem ref_loop (l : List Int) (hb : ∀ x ∈ l, 0 ≤ x ∧ x < 256) (hl : l.length < 9223372036854775800) (d : Nat) : ∀ (k i : Nat) (s : Int), i % 2 = 0 → l.length ≤ i + 2 * d → 0 ≤ s → s ≤ 65535 → i ≤ l.length + 1 →
    mantletref02_Add.l0 (k + 1 + d) s l (i : Int) = some (F (s + WL 0 (l.drop i))) := by
  induction d with
  | zero =>
    intro k i s _ h s0 s1 _
    simp only [mantletref02_Add.l0]
    rw [if_neg (by omega), List.drop_of_length_le (by omega), WL, Int.add_zero, F_small s0 s1]
  | succ d ih =>
    intro k i s he h s0 s1 hi
    rw [show k + 1 + (d + 1) = (k + 1 + d) + 1 by omega]
    simp only [mantletref02_Add.l0]
    by_cases c : i < l.length
    · obtain ⟨r0, r1⟩ := rd_range hb c
      have e1 : wrap64 (rd l (i : Int)) = rd l (i : Int) := w64 (by omega) (by omega)
      have e2 : wrap64 ((i : Int) + 1) = ((i + 1 : Nat) : Int) := by rw [w64 (by omega) (by omega)]; omega
      have e4 : wrap64 ((i : Int) + 2) = ((i + 2 : Nat) : Int) := by rw [w64 (by omega) (by omega)]; omega
      have e3 : wrap64 (256 * rd l (i : Int)) = 256 * rd l (i : Int) := w64 (by omega) (by omega)
      have hw := WL_nonneg (l.drop (i + 2)) 0 (drop_range hb (i + 2))
      rw [if_pos (by omega), if_pos (by omega), e1, e2, e3, e4]
      by_cases c2 : i + 1 < l.length
      · obtain ⟨q0, q1⟩ := rd_range hb c2
        have e5 : wrap64 (rd l ((i + 1 : Nat) : Int)) = rd l ((i + 1 : Nat) : Int) := w64 (by omega) (by omega)
        have hf := F_range (s + (256 * rd l (i : Int) + rd l ((i + 1 : Nat) : Int)))
        rw [if_pos (by omega), if_pos (by omega), e5, w64 (by omega) (by omega), two_eq s0 s1 (by omega) (by omega), Option.bind_some, ih k (i + 2) _ (by omega) (by omega) hf.1 hf.2 (by omega), F_add (by omega) hw, rd_cons c, WL, rd_cons c2, WL, if_pos (by omega), if_neg (by omega), WL_even _ (0 + 1 + 1) 0 (by omega), show i + 1 + 1 = i + 2 from rfl]
        congr 2
        omega
      · have hf := F_range (s + 256 * rd l (i : Int))
        rw [if_neg (by omega), two_eq s0 s1 (by omega) (by omega), Option.bind_some, ih k (i + 2) _ (by omega) (by omega) hf.1 hf.2 (by omega), F_add (by omega) hw, rd_cons c, WL, List.drop_of_length_le (show l.length ≤ i + 1 by omega), List.drop_of_length_le (show l.length ≤ i + 2 by omega), WL, WL, if_pos (by omega)]
        congr 2
        omega
    · rw [if_neg (by omega), List.drop_of_length_le (by omega), WL, Int.add_zero, F_small s0 s1]
theorem ref_eq (l : List Int) {s : Int} (k : Nat) (hb : ∀ x ∈ l, 0 ≤ x ∧ x < 256) (hl : l.length < 9223372036854775800) (s0 : 0 ≤ s) (s1 : s ≤ 65535) :
    mantletref02_Add.f (k + 1 + l.length) s l = some (F (s + WL 0 l)) := by
  unfold mantletref02_Add.f
  exact ref_loop l hb hl l.length k 0 s (by omega) (by omega) s0 s1 (by omega)
end Go.Proofs.Ytofjgdbiieanjaa.NetSum
namespace Go.Proofs.Ytofjgdbiieanjaa.NetField
open Go.RowKit Go.Proofs.Ytofjgdbiieanjaa.All Go.Proofs.Ytofjgdbiieanjaa.Bits Go.Proofs.YtofjgdbiieanjaaW.PrintWords Go.Proofs.YtofjgdbiieanjaaW.PrintLast
def numL (x : Int) (l : List Int) : Int := l.foldl (fun a c => a * 256 + c) x
theorem numL_cons (x c : Int) (l : List Int) : numL x (c :: l) = numL (x * 256 + c) l := rfl
theorem rd_cons {l : List Int} {i : Nat} (h : i < l.length) : l.drop i = rd l (i : Int) :: l.drop (i + 1) := by
  rw [List.drop_eq_getElem_cons h]
  unfold rd
  rw [Int.toNat_natCast, List.getD_eq_getElem?_getD, List.getElem?_eq_getElem h]
  rfl
theorem rd_range {l : List Int} (hb : ∀ x ∈ l, 0 ≤ x ∧ x < 256) {i : Nat} (h : i < l.length) : 0 ≤ rd l (i : Int) ∧ rd l (i : Int) < 256 := by
  unfold rd
  rw [Int.toNat_natCast, List.getD_eq_getElem?_getD, List.getElem?_eq_getElem h, Option.getD_some]
  exact hb _ (List.getElem_mem h)
theorem or_byte {x c : Int} (h0 : 0 ≤ x) (h1 : x * 256 < 18446744073709551616) (c0 : 0 ≤ c) (c1 : c < 256) :
    Go.bits .or .u64 (IntKind.u64.wrap (x * 256)) (IntKind.u64.wrap c) = x * 256 + c := by
  rw [wrap_u64, wrap_u64, Int.emod_eq_of_lt (by omega) h1, Int.emod_eq_of_lt c0 (by omega)]
  exact or_join 8 (by omega) (by omega) h1 c0 (by omega) (by omega)
theorem pow256 {m : Nat} (h : m ≤ 8) : (256 : Int) ^ m ≤ 18446744073709551616 := by
  have : m = 0 ∨ m = 1 ∨ m = 2 ∨ m = 3 ∨ m = 4 ∨ m = 5 ∨ m = 6 ∨ m = 7 ∨ m = 8 := by omega
  rcases this with rfl | rfl | rfl | rfl | rfl | rfl | rfl | rfl | rfl <;> decide
theorem num_loop (l : List Int) (hb : ∀ x ∈ l, 0 ≤ x ∧ x < 256) (hl : l.length ≤ 8) (d : Nat) : ∀ (k i : Nat) (x : Int), i + d = l.length → 0 ≤ x → x * 256 ^ d < 18446744073709551616 → x < 256 ^ i →
    field_Num.l0 (k + 1 + d) x l (l.length : Int) (i : Int) = some (numL x (l.drop i), true) := by
  induction d with
  | zero =>
    intro k i x h _ _ _
    simp only [field_Num.l0]
    rw [if_neg (by omega), List.drop_of_length_le (by omega)]
    rfl
  | succ d ih =>
    intro k i x h h0 h1 h2
    rw [show k + 1 + (d + 1) = (k + 1 + d) + 1 by omega]
    simp only [field_Num.l0]
    obtain ⟨r0, r1⟩ := rd_range hb (show i < l.length by omega)
    have hp : (0 : Int) < 256 ^ d := Int.pow_pos (by omega)
    have e1 : x * 256 ^ (d + 1) = x * 256 * 256 ^ d := by rw [Int.pow_succ, Int.mul_comm (256 ^ d) 256, Int.mul_assoc]
    have hx : x * 256 < 18446744073709551616 := by
      have : x * 256 * 1 ≤ x * 256 * 256 ^ d := Int.mul_le_mul_of_nonneg_left (by omega) (by omega)
      omega
    rw [if_pos (by omega), if_pos (by omega), if_pos (by omega), or_byte h0 hx r0 r1, w64 (by omega) (by omega), rd_cons (show i < l.length by omega), numL_cons]
    have e2 : (256 : Int) ^ i * 256 ^ (d + 1) = 256 ^ (i + (d + 1)) := (Int.pow_add 256 i (d + 1)).symm
    have e3 : (256 : Int) ^ (i + (d + 1)) ≤ 18446744073709551616 := pow256 (by omega)
    refine ih k (i + 1) _ (by omega) (by omega) ?_ ?_
    · have e4 : (x * 256 + rd l (i : Int)) < 256 ^ (i + 1) := by rw [Int.pow_succ]; omega
      have e5 : (x * 256 + rd l (i : Int)) * 256 ^ d < 256 ^ (i + 1) * 256 ^ d := Int.mul_lt_mul_of_pos_right e4 hp
      rw [← Int.pow_add, show i + 1 + d = i + (d + 1) by omega] at e5
      omega
    · rw [Int.pow_succ]; omega
/-- A slice of bytes of a slice. -/
def cutL (l : List Int) (a s : Nat) : List Int := (l.take (a + s)).drop a
theorem cutL_length {l : List Int} {a s : Nat} (h : a + s ≤ l.length) : (cutL l a s).length = s := by unfold cutL; rw [List.length_drop, List.length_take]; omega
theorem cutL_mem {l : List Int} {a s : Nat} {x : Int} (h : x ∈ cutL l a s) : x ∈ l := List.mem_of_mem_take (List.mem_of_mem_drop h)
theorem num_yes (l : List Int) (a s k : Nat) (hb : ∀ x ∈ l, 0 ≤ x ∧ x < 256) (h1 : 1 ≤ s) (h8 : s ≤ 8) (h : a + s ≤ l.length) (hl : l.length ≤ 9223372036854775807) :
    field_Num.f (k + 11) l (a : Int) (s : Int) = some (numL 0 (cutL l a s), true) := by
  have hlen := cutL_length h
  have hn := num_loop (cutL l a s) (fun x hx => hb x (cutL_mem hx)) (by omega) s (k + 9 - s) 0 0 (by omega) (by omega) (by omega) (by omega)
  rw [show k + 9 - s + 1 + s = k + 10 by omega] at hn
  unfold field_Num.f
  rw [if_neg (by omega), if_neg (by omega), if_neg (by omega), w64 (by omega) (by omega), decide_eq_false (by omega)]
  simp only [field_Num.j0]
  rw [if_neg (by decide), if_pos (by omega), w64 (by omega) (by omega), if_pos (by omega), if_pos (by omega), Option.bind_some]
  rw [show ((a : Int) + (s : Int)).toNat = a + s by omega, Int.toNat_natCast]
  exact hn
theorem num_no {l : List Int} {a s : Int} (k : Nat) (h : ¬ (0 ≤ a ∧ 1 ≤ s ∧ s ≤ 8 ∧ a ≤ l.length - s)) (hl : l.length ≤ 9223372036854775807) : field_Num.f (k + 1) l a s = some (0, false) := by
  unfold field_Num.f
  have hj : field_Num.j0 (k + 1) l a s true = some (0, false) := by simp only [field_Num.j0]; rw [if_pos trivial]
  by_cases c1 : a < 0
  · rw [if_pos c1, hj]
  · rw [if_neg c1]
    by_cases c2 : s < 1
    · rw [if_pos c2, hj]
    · rw [if_neg c2]
      by_cases c3 : s > 8
      · rw [if_pos c3, hj]
      · rw [if_neg c3, w64 (by omega) (by omega), decide_eq_true (by omega), hj]

/-- A number as bytes, the first one the greatest. -/
def bytesL (v : Nat) : Nat → List Int
  | 0 => []
  | n + 1 => ((v / 2 ^ (8 * n) % 256 : Nat) : Int) :: bytesL v n
theorem bytesL_length (v : Nat) : ∀ n, (bytesL v n).length = n
  | 0 => rfl
  | n + 1 => by rw [bytesL, List.length_cons, bytesL_length v n]
theorem bytesL_range (v : Nat) : ∀ n, ∀ x ∈ bytesL v n, 0 ≤ x ∧ x < 256
  | 0 => by simp [bytesL]
  | n + 1 => by
    intro x hx
    rw [bytesL, List.mem_cons] at hx
    rcases hx with rfl | hx
    · omega
    · exact bytesL_range v n x hx
theorem bytesL_num (v : Nat) : ∀ (n : Nat) (x : Int), numL x (bytesL v n) = x * ((2 ^ (8 * n) : Nat) : Int) + ((v % 2 ^ (8 * n) : Nat) : Int)
  | 0, x => by simp [bytesL, numL, Nat.mod_one]
  | n + 1, x => by
    rw [bytesL, numL_cons, bytesL_num v n]
    have e : 2 ^ (8 * (n + 1)) = 2 ^ (8 * n) * 256 := by rw [show 8 * (n + 1) = 8 * n + 8 by omega, Nat.pow_add]
    rw [e, Nat.mod_mul]
    generalize v / 2 ^ (8 * n) % 256 = b
    generalize v % 2 ^ (8 * n) = m
    generalize 2 ^ (8 * n) = p
    have e1 : ((p * 256 : Nat) : Int) = (p : Int) * 256 := by rw [Int.natCast_mul]; rfl
    have e2 : ((m + p * b : Nat) : Int) = (m : Int) + (p : Int) * (b : Int) := by rw [Int.natCast_add, Int.natCast_mul]
    rw [e1, e2, Int.add_mul, Int.mul_assoc x 256, Int.mul_comm 256 (p : Int), Int.mul_comm (b : Int) (p : Int)]
    omega
theorem bytesL_at (v : Nat) : ∀ (n i : Nat), i < n → (bytesL v n)[i]? = some ((v / 2 ^ (8 * (n - 1 - i)) % 256 : Nat) : Int)
  | n + 1, 0, _ => by simp [bytesL]
  | n + 1, i + 1, h => by
    rw [bytesL, List.getElem?_cons_succ, bytesL_at v n i (by omega)]
    congr 6
    omega
theorem cut_loop (v s : Nat) (hs : s ≤ 8) (d : Nat) : ∀ (k i : Nat) (y : List Int), i + d = s → y.length = s → y.take i = (bytesL v s).take i →
    field_Cut.l0 (k + 1 + d) (v : Int) (s : Int) y (s : Int) (i : Int) = some (bytesL v s) := by
  induction d with
  | zero =>
    intro k i y h hy ht
    simp only [field_Cut.l0]
    rw [if_neg (by omega)]
    have hl := bytesL_length v s
    rw [List.take_of_length_le (by omega), List.take_of_length_le (by omega)] at ht
    rw [ht]
  | succ d ih =>
    intro k i y h hy ht
    rw [show k + 1 + (d + 1) = (k + 1 + d) + 1 by omega]
    simp only [field_Cut.l0]
    rw [w64 (n := (s : Int) - 1) (by omega) (by omega), w64 (n := (s : Int) - 1 - (i : Int)) (by omega) (by omega), w64 (n := 8 * ((s : Int) - 1 - (i : Int))) (by omega) (by omega), w64 (n := (i : Int) + 1) (by omega) (by omega)]
    rw [if_pos (by omega), if_pos (by omega), if_pos (by omega), if_pos (by omega)]
    rw [show 8 * ((s : Int) - 1 - (i : Int)) = ((8 * (s - 1 - i) : Nat) : Int) by omega, shr_nat _ _ (by omega), Int.toNat_natCast]
    refine ih k (i + 1) _ (by omega) (by rw [List.length_set]; exact hy) ?_
    have hl := bytesL_length v s
    have hb := bytesL_at v s i (by omega)
    rw [List.take_add_one, List.take_add_one, hb, List.take_set_of_le (by omega), ht, List.getElem?_set_self (by omega)]
    simp
theorem cut_yes (v s k : Nat) (h1 : 1 ≤ s) (h8 : s ≤ 8) : field_Cut.f (k + 11) (v : Int) (s : Int) = some (bytesL v s) := by
  have hn := cut_loop v s h8 s (k + 9 - s) 0 (List.replicate s 0) (by omega) (by simp) (by simp)
  rw [show k + 9 - s + 1 + s = k + 10 by omega] at hn
  unfold field_Cut.f
  rw [if_neg (by omega), decide_eq_false (by omega)]
  simp only [field_Cut.j0]
  rw [if_neg (by decide), if_pos (by omega), Int.toNat_natCast, if_pos (by omega), Option.bind_some, List.length_replicate]
  exact hn
theorem cut_no {v s : Int} (k : Nat) (h : ¬ (1 ≤ s ∧ s ≤ 8)) : field_Cut.f (k + 1) v s = some [] := by
  unfold field_Cut.f
  have hj : field_Cut.j0 (k + 1) v s true = some [] := by simp only [field_Cut.j0]; rw [if_pos trivial]
  by_cases c1 : s < 1
  · rw [if_pos c1, hj]
  · rw [if_neg c1, decide_eq_true (by omega), hj]
end Go.Proofs.Ytofjgdbiieanjaa.NetField
namespace Go.Proofs.Ytofjgdbiieanjaa.NetRef
open Go.RowKit Go.Proofs.Ytofjgdbiieanjaa.All Go.Proofs.Ytofjgdbiieanjaa.Ext Go.Proofs.Ytofjgdbiieanjaa.Bits Go.Proofs.YtofjgdbiieanjaaW.PrintWords Go.Proofs.YtofjgdbiieanjaaW.PrintLast Go.Proofs.Ytofjgdbiieanjaa.NetField
/-! What the small functions of the packets come to. -/
/-- Bytes. -/
abbrev Byte (l : List Int) : Prop := ∀ x ∈ l, 0 ≤ x ∧ x < 256
theorem byte_of {l : List Int} (h : ∀ x ∈ l, (Lit.int .u8 x).wf = true) : Byte l := fun x hx => wf_u8 (h x hx)
theorem byte_app {l m : List Int} (h : Byte l) (h2 : Byte m) : Byte (l ++ m) := fun x hx => (List.mem_append.1 hx).elim (h x) (h2 x)
theorem byte_take {l : List Int} (h : Byte l) (n : Nat) : Byte (l.take n) := fun x hx => h x (List.mem_of_mem_take hx)
theorem byte_drop {l : List Int} (h : Byte l) (n : Nat) : Byte (l.drop n) := fun x hx => h x (List.mem_of_mem_drop hx)
theorem byte_nil : Byte [] := fun x hx => by cases hx
theorem byte_cons {x : Int} {l : List Int} (h : 0 ≤ x ∧ x < 256) (h2 : Byte l) : Byte (x :: l) := fun y hy => by
  rcases List.mem_cons.1 hy with rfl | hy
  · exact h
  · exact h2 y hy
theorem byte_bytesL (v n : Nat) : Byte (bytesL v n) := bytesL_range v n
/-- The bytes that count. -/
def shortL (l : List Int) : List Int := if l.length > 1600 then l.take 1600 else l
theorem short_length (l : List Int) : (shortL l).length ≤ 1600 := by unfold shortL; split <;> (try rw [List.length_take]) <;> omega
theorem short_byte {l : List Int} (h : Byte l) : Byte (shortL l) := by 
  unfold shortL
  split
  · exact byte_take h _
  · exact h
theorem short_of (l : List Int) : (if (l.length : Int) > 1600 then (if 1600 ≤ (l.length : Int) then some (l.take 1600) else none) else some l) = some (shortL l) := by
  unfold shortL
  by_cases h : l.length > 1600
  · rw [if_pos (by omega), if_pos (by omega), if_pos h]
  · rw [if_neg (by omega), if_neg h]
/-- A number of two bytes. -/
def two (l : List Int) (i : Nat) : Int := 256 * rd l (i : Int) + rd l ((i + 1 : Nat) : Int)
theorem rd_byte {l : List Int} (hb : Byte l) {i : Nat} (h : i < l.length) : 0 ≤ rd l (i : Int) ∧ rd l (i : Int) < 256 := rd_range hb h
theorem two_range {l : List Int} (hb : Byte l) {i : Nat} (h : i + 1 < l.length) : 0 ≤ two l i ∧ two l i ≤ 65535 := by
  have h1 := rd_byte hb (show i < l.length by omega)
  have h2 := rd_byte hb h
  unfold two; omega
theorem two_at {l : List Int} (hb : Byte l) {i : Nat} (h : i + 1 < l.length) (hi : i < 1000000) : mantletref04_Two.f l (i : Int) = some (two l i) := by
  have h1 := rd_byte hb (show i < l.length by omega)
  have h2 := rd_byte hb h
  have e : wrap64 ((i : Int) + 1) = ((i + 1 : Nat) : Int) := by rw [w64 (by omega) (by omega)]; omega
  unfold mantletref04_Two.f
  rw [e, if_pos (by omega), if_pos (by omega), if_pos (by omega), if_pos (by omega), w64 (n := rd l (i : Int)) (by omega) (by omega), w64 (n := rd l ((i + 1 : Nat) : Int)) (by omega) (by omega), w64 (n := 256 * rd l (i : Int)) (by omega) (by omega), w64 (by omega) (by omega)]
  rfl
theorem num_two {l : List Int} {i : Nat} (h : i + 1 < l.length) : numL 0 (cutL l i 2) = two l i := by
  have e : cutL l i 2 = [rd l (i : Int), rd l ((i + 1 : Nat) : Int)] := by
    unfold cutL
    have h1 := rd_cons (l := l.take (i + 2)) (i := i) (by rw [List.length_take]; omega)
    have h2 := rd_cons (l := l.take (i + 2)) (i := i + 1) (by rw [List.length_take]; omega)
    have h3 : (l.take (i + 2)).drop (i + 1 + 1) = [] := List.drop_eq_nil_of_le (by rw [List.length_take]; omega)
    rw [h3] at h2
    rw [h2] at h1
    rw [h1]
    have r : ∀ j : Nat, j < i + 2 → rd (l.take (i + 2)) (j : Int) = rd l (j : Int) := by
      intro j hj
      simp only [rd, Int.toNat_natCast, List.getD_eq_getElem?_getD, List.getElem?_take]
      rw [if_pos hj]
    rw [r i (by omega), r (i + 1) (by omega)]
  rw [e]
  simp only [numL, List.foldl_cons, List.foldl_nil, two]; omega
theorem num2 {l : List Int} (hb : Byte l) {i : Nat} (k : Nat) (h : i + 1 < l.length) (hl : l.length ≤ 9223372036854775807) : field_Num.f (k + 11) l (i : Int) 2 = some (two l i, true) := by
  have h1 := num_yes l i 2 k hb (by omega) (by omega) (by omega) hl
  rw [num_two h] at h1
  exact h1
theorem put_two {n : Int} (h0 : 0 ≤ n) (h1 : n ≤ 65535) : mantletref04_Put.f n = some (bytesL n.toNat 2) := by
  unfold mantletref04_Put.f
  have e : wrap64 (Int.tdiv n 256) = n / 256 := by rw [Int.tdiv_eq_ediv_of_nonneg h0, w64 (by omega) (by omega)]
  have e2 : Int.tmod (n / 256) 256 = n / 256 % 256 := Int.tmod_eq_emod_of_nonneg (by omega)
  have e3 : Int.tmod n 256 = n % 256 := Int.tmod_eq_emod_of_nonneg h0
  rw [e, e2, e3]
  simp only [bytesL]
  congr 2
  · omega
  · congr 1; omega
/-- slices.Concat -/
theorem concat_l1 (ls : List (List Int)) (hn : ls.length ≤ 1000) (d : Nat) : ∀ (k i : Nat) (y : List Int), i + d = ls.length → y.length + ((ls.drop i).flatten).length < 140737488355328 →
    slices_Concat_byte_byte.l1 (k + 1 + d) y ls (ls.length : Int) (i : Int) = some (y ++ (ls.drop i).flatten) := by
  induction d with
  | zero =>
    intro k i y hi hlt
    rw [show k + 1 + 0 = k + 1 by omega]
    simp only [slices_Concat_byte_byte.l1]
    rw [if_neg (by omega), List.drop_eq_nil_of_le (by omega), List.flatten_nil, List.append_nil]
  | succ d ih =>
    intro k i y hi hlt
    have hi2 : i < ls.length := by omega
    have hd : ls.drop i = ls[i] :: ls.drop (i + 1) := List.drop_eq_getElem_cons hi2
    have hr : rd_L1 ls (i : Int) = ls[i] := by unfold rd_L1; rw [Int.toNat_natCast, List.getD_eq_getElem?_getD, List.getElem?_eq_getElem hi2]; rfl
    rw [hd, List.flatten_cons, List.length_append] at hlt
    rw [show k + 1 + (d + 1) = (k + 1 + d) + 1 by omega]
    simp only [slices_Concat_byte_byte.l1]
    rw [if_pos (by omega), if_pos (by omega), if_pos (by omega), hr, if_pos (by omega), w64 (by omega) (by omega), show (i : Int) + 1 = ((i + 1 : Nat) : Int) by omega, ih k (i + 1) _ (by omega) (by rw [List.length_append]; omega), hd, List.flatten_cons, List.append_assoc]
theorem concat_l0 (ls : List (List Int)) (hn : ls.length ≤ 1000) (ht : ls.flatten.length < 140737488355328) (d : Nat) : ∀ (k i s : Nat), i + d = ls.length → s + ((ls.drop i).flatten).length = ls.flatten.length →
    slices_Concat_byte_byte.l0 (k + 2 + ls.length + d) ls (s : Int) ls (ls.length : Int) (i : Int) = some ls.flatten := by
  induction d with
  | zero =>
    intro k i s hi hs
    rw [List.drop_eq_nil_of_le (by omega), List.flatten_nil, List.length_nil] at hs
    rw [show k + 2 + ls.length + 0 = (k + 1 + ls.length) + 1 by omega]
    simp only [slices_Concat_byte_byte.l0]
    rw [if_neg (by omega)]
    unfold slices_Grow.f
    rw [if_pos (by omega), Option.bind_some]
    have h := concat_l1 ls hn ls.length k 0 [] (by omega) (by rw [List.drop_zero, List.length_nil]; omega)
    rw [List.drop_zero, List.nil_append] at h
    exact h
  | succ d ih =>
    intro k i s hi hs
    have hi2 : i < ls.length := by omega
    have hd : ls.drop i = ls[i] :: ls.drop (i + 1) := List.drop_eq_getElem_cons hi2
    have hr : rd_L1 ls (i : Int) = ls[i] := by unfold rd_L1; rw [Int.toNat_natCast, List.getD_eq_getElem?_getD, List.getElem?_eq_getElem hi2]; rfl
    rw [hd, List.flatten_cons, List.length_append] at hs
    rw [show k + 2 + ls.length + (d + 1) = (k + 2 + ls.length + d) + 1 by omega]
    simp only [slices_Concat_byte_byte.l0]
    rw [if_pos (by omega), if_pos (by omega), if_pos (by omega), hr, w64 (n := (s : Int) + _) (by omega) (by omega), if_neg (by omega), w64 (by omega) (by omega), show (i : Int) + 1 = ((i + 1 : Nat) : Int) by omega, show (s : Int) + (ls[i].length : Int) = ((s + ls[i].length : Nat) : Int) by omega]
    exact ih k (i + 1) _ (by omega) (by omega)
theorem concat_eq (ls : List (List Int)) (k : Nat) (hn : ls.length ≤ 1000) (ht : ls.flatten.length < 140737488355328) :
    slices_Concat_byte_byte.f (k + 2 + ls.length + ls.length) ls = some ls.flatten := by
  unfold slices_Concat_byte_byte.f
  exact concat_l0 ls hn ht ls.length k 0 0 (by omega) (by rw [List.drop_zero]; omega)
end Go.Proofs.Ytofjgdbiieanjaa.NetRef
namespace Go.Proofs.Ytofjgdbiieanjaa.NetTurn
open Go.RowKit Go.Proofs.Ytofjgdbiieanjaa.All Go.Proofs.Ytofjgdbiieanjaa.Ext Go.Proofs.Ytofjgdbiieanjaa.Bits Go.Proofs.YtofjgdbiieanjaaW.PrintWords Go.Proofs.YtofjgdbiieanjaaW.PrintLast Go.Proofs.Ytofjgdbiieanjaa.NetSum Go.Proofs.Ytofjgdbiieanjaa.NetField Go.Proofs.Ytofjgdbiieanjaa.NetRef
/-! Bytes with a whole sum, and with one bit turned. -/
/-- What is missing to a whole sum makes it whole. -/
theorem whole {w : Int} (h : 0 ≤ w) : F (w + (65535 - F w)) = 65535 := by unfold F; split <;> (split <;> omega)
theorem F_other {t u d : Int} (h : F t = 65535) (hd : 0 < d) (hd1 : d < 65535) (hu : u = t + d ∨ u = t - d) : F u ≠ 65535 := by
  unfold F at h ⊢
  split at h
  · omega
  · split <;> omega
set_option maxRecDepth 100000 in
theorem turn_nat : ∀ b, b < 256 → ∀ m, m < 8 → ((b ^^^ 2 ^ m) = b + 2 ^ m ∨ (b ^^^ 2 ^ m) + 2 ^ m = b) ∧ (b ^^^ 2 ^ m) < 256 := by decide
theorem turned {b : Int} {m : Nat} (b0 : 0 ≤ b) (b1 : b < 256) (hm : m < 8) : bits .xor .u8 b (shl .u8 1 (m : Int)) = ((b.toNat ^^^ 2 ^ m : Nat) : Int) := by
  obtain ⟨n, rfl⟩ := Int.eq_ofNat_of_zero_le b0
  have hp : 2 ^ m ≤ 2 ^ 7 := Nat.pow_le_pow_right (by decide) (by omega)
  have e : shl .u8 1 (m : Int) = ((2 ^ m : Nat) : Int) := by
    unfold shl
    rw [show min ((m : Int)).toNat IntKind.u8.bits = m by simp [IntKind.bits]; omega, Int.one_mul, show (2 : Int) ^ m = ((2 ^ m : Nat) : Int) by simp]
    exact wrap_nat .u8 rfl _ (by simp [IntKind.bits]; omega)
  rw [e, (bits_nats .u8 rfl n (2 ^ m) (by simp [IntKind.bits]; omega) (by simp [IntKind.bits]; omega)).2.2.1, Int.toNat_natCast]
theorem turn {b : Int} {m : Nat} (b0 : 0 ≤ b) (b1 : b < 256) (hm : m < 8) : ∃ d : Int, 0 < d ∧ d ≤ 128 ∧ 0 ≤ bits .xor .u8 b (shl .u8 1 (m : Int)) ∧ bits .xor .u8 b (shl .u8 1 (m : Int)) < 256 ∧
    (bits .xor .u8 b (shl .u8 1 (m : Int)) = b + d ∨ bits .xor .u8 b (shl .u8 1 (m : Int)) = b - d) := by
  have h1 := turn_nat b.toNat (by omega) m hm
  have hp : 2 ^ m ≤ 2 ^ 7 := Nat.pow_le_pow_right (by decide) (by omega)
  have hq : 0 < 2 ^ m := Nat.two_pow_pos m
  rw [turned b0 b1 hm]
  refine ⟨((2 ^ m : Nat) : Int), ?_⟩
  generalize (b.toNat ^^^ 2 ^ m) = x at *
  generalize 2 ^ m = p at *
  omega
theorem WL_set : ∀ (l : List Int) (p i : Nat) (v : Int), i < l.length → WL p (l.set i v) = WL p l + (if (p + i) % 2 = 0 then 256 * (v - rd l (i : Int)) else v - rd l (i : Int))
  | c :: t, p, 0, v, _ => by
    rw [List.set_cons_zero, WL, WL, show rd (c :: t) ((0 : Nat) : Int) = c from rfl, Nat.add_zero]
    split <;> omega
  | c :: t, p, i + 1, v, h => by
    have e : rd (c :: t) ((i + 1 : Nat) : Int) = rd t (i : Int) := by
      unfold rd
      rw [Int.toNat_natCast, Int.toNat_natCast, List.getD_cons_succ]
    rw [List.set_cons_succ, WL, WL, WL_set t (p + 1) i v (by simpa using h), e, show p + 1 + i = p + (i + 1) by omega]
    omega
theorem set_byte {l : List Int} (hb : Byte l) {i : Nat} {v : Int} (v0 : 0 ≤ v) (v1 : v < 256) : Byte (l.set i v) := by
  intro x hx
  rcases List.mem_or_eq_of_mem_set hx with hx | rfl
  · exact hb x hx
  · exact ⟨v0, v1⟩
theorem rd_set {l : List Int} {i j : Nat} {v : Int} (h : i < l.length) : rd (l.set i v) (j : Int) = if i = j then v else rd l (j : Int) := by
  unfold rd
  rw [Int.toNat_natCast, List.getD_eq_getElem?_getD, List.getD_eq_getElem?_getD]
  by_cases e : i = j
  · subst e
    rw [List.getElem?_set_self h, if_pos rfl]
    rfl
  · rw [List.getElem?_set_ne e, if_neg e]
/-- A byte with one bit turned. -/
def turnL (l : List Int) (j m : Nat) : List Int := l.set j (bits .xor .u8 (rd l (j : Int)) (shl .u8 1 (m : Int)))
theorem turnL_length (l : List Int) (j m : Nat) : (turnL l j m).length = l.length := List.length_set
theorem turnL_byte {l : List Int} (hb : Byte l) {j m : Nat} (hj : j < l.length) (hm : m < 8) : Byte (turnL l j m) := by
  obtain ⟨v0, v1⟩ := rd_byte hb hj
  obtain ⟨d, d0, d1, u0, u1, hu⟩ := turn v0 v1 hm
  exact set_byte hb u0 u1
/-- One bit turned: the sum is whole no more. -/
theorem turnL_sum {l : List Int} {s : Int} (hb : Byte l) (h : F (s + WL 0 l) = 65535) {j m : Nat} (hj : j < l.length) (hm : m < 8) : F (s + WL 0 (turnL l j m)) ≠ 65535 := by
  obtain ⟨v0, v1⟩ := rd_byte hb hj
  obtain ⟨d, d0, d1, u0, u1, hu⟩ := turn v0 v1 hm
  unfold turnL
  rw [WL_set _ _ _ _ hj]
  by_cases e : (0 + j) % 2 = 0
  · rw [if_pos e]; exact F_other h (d := 256 * d) (by omega) (by omega) (by omega)
  · rw [if_neg e]; exact F_other h (d := d) (by omega) (by omega) (by omega)
theorem turnL_rd {l : List Int} {i j m : Nat} (hj : j < l.length) (h : j ≠ i) : rd (turnL l j m) (i : Int) = rd l (i : Int) := by
  unfold turnL
  rw [rd_set hj, if_neg h]
/-- Which byte, and which of its bits. -/
theorem spot {b : Int} {n : Nat} (b0 : 0 ≤ b) (b1 : b < 65536) (hn : 0 < n) : ∃ j : Nat, Int.tmod (wrap64 (Int.tdiv (wrap64 b) 8)) (n : Int) = (j : Int) ∧ j < n := by
  have q0 : 0 ≤ Int.tdiv (wrap64 b) 8 ∧ Int.tdiv (wrap64 b) 8 < 8192 := by rw [w64 (by omega) (by omega), Int.tdiv_eq_ediv_of_nonneg b0]; omega
  have q1 : wrap64 (Int.tdiv (wrap64 b) 8) = Int.tdiv (wrap64 b) 8 := w64 (by omega) (by omega)
  rw [q1]
  obtain ⟨j, hj⟩ := Int.eq_ofNat_of_zero_le (show 0 ≤ Int.tmod (Int.tdiv (wrap64 b) 8) (n : Int) from Int.tmod_nonneg _ q0.1)
  refine ⟨j, hj, ?_⟩
  have h := Int.tmod_lt_of_pos (Int.tdiv (wrap64 b) 8) (show (0 : Int) < n by omega)
  omega
theorem spot8 {b : Int} (b0 : 0 ≤ b) : ∃ m : Nat, Int.tmod b 8 = (m : Int) ∧ m < 8 := by
  obtain ⟨m, hm⟩ := Int.eq_ofNat_of_zero_le (show 0 ≤ Int.tmod b 8 from Int.tmod_nonneg _ b0)
  refine ⟨m, hm, ?_⟩
  have h := Int.tmod_lt_of_pos b (show (0 : Int) < 8 by omega)
  omega
theorem two_bytes {n : Int} (h0 : 0 ≤ n) (h1 : n ≤ 65535) : bytesL n.toNat 2 = [n / 256, n % 256] := by
  simp only [bytesL, Nat.reduceMul, Nat.reducePow]
  refine List.cons_eq_cons.2 ⟨by omega, List.cons_eq_cons.2 ⟨by omega, rfl⟩⟩
end Go.Proofs.Ytofjgdbiieanjaa.NetTurn
