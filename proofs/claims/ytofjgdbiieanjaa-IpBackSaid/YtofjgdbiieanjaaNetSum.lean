import Derived.Test.YtofjgdbiieanjaaAllx53
import Derived.Test.YtofjgdbiieanjaaBits
namespace Go.Proofs.Ytofjgdbiieanjaa.NetSum
open Go.RowKit Go.Proofs.Ytofjgdbiieanjaa.All Go.Proofs.Ytofjgdbiieanjaa.Bits Go.Proofs.YtofjgdbiieanjaaW.PrintWords Go.Proofs.YtofjgdbiieanjaaW.PrintLast
/-! What the sums come to: a sum is the rest by 65535, told by 65535 where it is 0 and something was added. -/
def F (n : Int) : Int := if n ≤ 0 then 0 else (n - 1) % 65535 + 1
theorem F_small {n : Int} (h0 : 0 ≤ n) (h : n ≤ 65535) : F n = n := by unfold F; split <;> omega
theorem F_range (n : Int) : 0 ≤ F n ∧ F n ≤ 65535 := by unfold F; split <;> omega
theorem F_add {a b : Int} (ha : 0 ≤ a) (hb : 0 ≤ b) : F (F a + b) = F (a + b) := by
  unfold F; split <;> split <;> (try split) <;> omega
theorem F_fold {n : Int} (h0 : 0 ≤ n) : F (n / 65536 + n % 65536) = F n := by
  unfold F; split <;> split <;> omega
/-- The bytes' weights, from a place on. -/
def WL : Nat → List Int → Int
  | _, [] => 0
  | p, c :: t => (if p % 2 = 0 then 256 * c else c) + WL (p + 1) t
theorem WL_even : ∀ (l : List Int) (p q : Nat), p % 2 = q % 2 → WL p l = WL q l
  | [], _, _, _ => rfl
  | c :: t, p, q, h => by rw [WL, WL, h, WL_even t (p + 1) (q + 1) (by omega)]
theorem WL_append : ∀ (l m : List Int) (p : Nat), WL p (l ++ m) = WL p l + WL (p + l.length) m
  | [], m, p => by simp [WL]
  | c :: t, m, p => by
    rw [List.cons_append, WL, WL, WL_append t m (p + 1), List.length_cons, show p + 1 + t.length = p + (t.length + 1) by omega]
    omega
theorem WL_nonneg : ∀ (l : List Int) (p : Nat), (∀ x ∈ l, 0 ≤ x ∧ x < 256) → 0 ≤ WL p l
  | [], _, _ => by simp [WL]
  | c :: t, p, h => by
    have h1 := h c (List.mem_cons_self ..)
    have h2 := WL_nonneg t (p + 1) (fun x hx => h x (List.mem_cons_of_mem _ hx))
    rw [WL]
    split <;> omega
theorem and_u32 {x : Int} (h0 : 0 ≤ x) (h1 : x < 4294967296) : bits .and .u32 x 65535 = x % 65536 := by
  have h := bits_mask .u32 32 (by decide) (fun n a b => by rw [wrap_u32]; omega) 16 (by decide) x h0 (by omega)
  simpa using h
theorem and_one {x : Int} (h0 : 0 ≤ x) (h1 : x < 9223372036854775808) : bits .and .i64 x 1 = x % 2 := by
  have h := bits_mask .i64 63 (by decide) (fun n a b => by rw [i64_w]; exact w64 (by omega) (by omega)) 1 (by decide) x h0 (by omega)
  simpa using h
theorem not_u16 {x : Int} (h0 : 0 ≤ x) (h1 : x ≤ 65535) : bits .xor .u16 65535 x = 65535 - x := by
  obtain ⟨n, rfl⟩ := Int.eq_ofNat_of_zero_le h0
  have h := (bits_nats .u16 rfl 65535 n (by decide) (by simp [IntKind.bits]; omega)).2.2.1
  rw [show (65535 : Int) = ((65535 : Nat) : Int) from rfl, h]
  have e : 65535 ^^^ n = 65535 - n := by
    apply Nat.eq_of_testBit_eq
    intro i
    have e1 := Nat.testBit_two_pow_sub_succ (x := n) (n := 16) (by omega) i
    rw [show 2 ^ 16 - (n + 1) = 65535 - n by omega] at e1
    rw [e1, Nat.testBit_xor, show (65535 : Nat) = 2 ^ 16 - 1 from rfl, Nat.testBit_two_pow_sub_one]
    by_cases c : i < 16
    · simp [c]
    · have : n.testBit i = false := Nat.testBit_lt_two_pow (Nat.lt_of_lt_of_le (show n < 2 ^ 16 by omega) (Nat.pow_le_pow_right (by decide) (by omega)))
      simp [c, this]
  rw [e]
  omega
theorem fold_eq {n : Int} (k : Nat) (h0 : 0 ≤ n) (h1 : n < 4294967296) : sum_fold.f (k + 4) n = some (F n) := by
  have step : ∀ (m : Nat) (x : Int), 0 ≤ x → x < 4294967296 → sum_fold.l0 (m + 1) x = if x > 65535 then sum_fold.l0 m (x / 65536 + x % 65536) else some x := by
    intro m x a b
    simp only [sum_fold.l0]
    by_cases c : x > 65535
    · rw [if_pos c, if_pos c, and_u32 a b]
      congr 1
      omega
    · rw [if_neg c, if_neg c, wrap_u16]
      congr 1
      omega
  unfold sum_fold.f
  rw [step (k + 3) n h0 h1]
  by_cases c1 : n > 65535
  · rw [if_pos c1, step (k + 2) _ (by omega) (by omega)]
    by_cases c2 : n / 65536 + n % 65536 > 65535
    · rw [if_pos c2, step (k + 1) _ (by omega) (by omega)]
      by_cases c3 : (n / 65536 + n % 65536) / 65536 + (n / 65536 + n % 65536) % 65536 > 65535
      · rw [if_pos c3, step k _ (by omega) (by omega), if_neg (by omega), ← F_fold h0, ← F_fold (show 0 ≤ n / 65536 + n % 65536 by omega), ← F_fold (show 0 ≤ (n / 65536 + n % 65536) / 65536 + (n / 65536 + n % 65536) % 65536 by omega), F_small (by omega) (by omega)]
      · rw [if_neg c3, ← F_fold h0, ← F_fold (show 0 ≤ n / 65536 + n % 65536 by omega), F_small (by omega) (by omega)]
    · rw [if_neg c2, ← F_fold h0, F_small (by omega) (by omega)]
  · rw [if_neg c1, F_small h0 (by omega)]
theorem rd_cons {l : List Int} {i : Nat} (h : i < l.length) : l.drop i = rd l (i : Int) :: l.drop (i + 1) := by
  rw [List.drop_eq_getElem_cons h]
  unfold rd
  rw [Int.toNat_natCast, List.getD_eq_getElem?_getD, List.getElem?_eq_getElem h]
  rfl
theorem rd_range {l : List Int} (hb : ∀ x ∈ l, 0 ≤ x ∧ x < 256) {i : Nat} (h : i < l.length) : 0 ≤ rd l (i : Int) ∧ rd l (i : Int) < 256 := by
  unfold rd
  rw [Int.toNat_natCast, List.getD_eq_getElem?_getD, List.getElem?_eq_getElem h, Option.getD_some]
  exact hb _ (List.getElem_mem h)
theorem drop_range {l : List Int} (hb : ∀ x ∈ l, 0 ≤ x ∧ x < 256) (i : Nat) : ∀ x ∈ l.drop i, 0 ≤ x ∧ x < 256 := fun x hx => hb x (List.mem_of_mem_drop hx)
/-- A byte at its place in a sum. -/
theorem shl_place (i : Nat) {c : Int} (h : (i : Int) < 9223372036854775807) (c0 : 0 ≤ c) (c1 : c < 256) :
    0 ≤ wrap64 (8 * wrap64 (1 - bits .and .i64 (i : Int) 1)) ∧ shl .u32 (c % 4294967296) (wrap64 (8 * wrap64 (1 - bits .and .i64 (i : Int) 1))) = if i % 2 = 0 then 256 * c else c := by
  rw [and_one (by omega) (by omega), w64 (n := 1 - (i : Int) % 2) (by omega) (by omega), w64 (by omega) (by omega)]
  refine ⟨by omega, ?_⟩
  unfold shl
  rw [wrap_u32]
  by_cases e : i % 2 = 0
  · rw [if_pos e, show (8 * (1 - (i : Int) % 2)).toNat = 8 by omega, show min 8 IntKind.u32.bits = 8 from rfl]
    omega
  · rw [if_neg e, show (8 * (1 - (i : Int) % 2)).toNat = 0 by omega, show min 0 IntKind.u32.bits = 0 from rfl]
    omega
theorem add_loop (l : List Int) (hb : ∀ x ∈ l, 0 ≤ x ∧ x < 256) (hl : l.length < 9223372036854775807) (d : Nat) : ∀ (k i : Nat) (s : Int), i + d = l.length → 0 ≤ s → s ≤ 65535 →
    sum_Add.l0 (k + 5 + d) s l (l.length : Int) (i : Int) = some (F (s + WL i (l.drop i))) := by
  induction d with
  | zero =>
    intro k i s h s0 s1
    simp only [sum_Add.l0]
    rw [if_neg (by omega), List.drop_of_length_le (by omega), WL, Int.add_zero, F_small s0 s1]
  | succ d ih =>
    intro k i s h s0 s1
    rw [show k + 5 + (d + 1) = (k + 5 + d) + 1 by omega]
    simp only [sum_Add.l0]
    obtain ⟨r0, r1⟩ := rd_range hb (show i < l.length by omega)
    obtain ⟨p0, p1⟩ := shl_place i (by omega) r0 r1
    have hw := WL_nonneg (l.drop (i + 1)) (i + 1) (drop_range hb (i + 1))
    have hv : 0 ≤ (if i % 2 = 0 then 256 * rd l (i : Int) else rd l (i : Int)) ∧ (if i % 2 = 0 then 256 * rd l (i : Int) else rd l (i : Int)) ≤ 65535 := by split <;> omega
    rw [if_pos (by omega), if_pos (by omega), if_pos (by omega), if_pos p0, p1, rd_cons (show i < l.length by omega), WL]
    generalize (if i % 2 = 0 then 256 * rd l (i : Int) else rd l (i : Int)) = v at *
    have hf := F_range (s + v)
    rw [show (s % 4294967296 + v) % 4294967296 = s + v by omega, show k + 5 + d = (k + 1 + d) + 4 by omega, fold_eq _ (by omega) (by omega), Option.bind_some, w64 (by omega) (by omega), show k + 1 + d + 4 = k + 5 + d by omega]
    have hi := ih k (i + 1) (F (s + v)) (by omega) hf.1 hf.2
    rw [show ((i + 1 : Nat) : Int) = (i : Int) + 1 by omega] at hi
    rw [hi, F_add (by omega) hw]
    congr 2
    omega
theorem add_eq (l : List Int) {s : Int} (k : Nat) (hb : ∀ x ∈ l, 0 ≤ x ∧ x < 256) (hl : l.length < 9223372036854775807) (s0 : 0 ≤ s) (s1 : s ≤ 65535) :
    sum_Add.f (k + 5 + l.length) s l = some (F (s + WL 0 l)) := by
  unfold sum_Add.f
  exact add_loop l hb hl l.length k 0 s (by omega) s0 s1
theorem of_eq (l : List Int) (k : Nat) (hb : ∀ x ∈ l, 0 ≤ x ∧ x < 256) (hl : l.length < 9223372036854775807) :
    sum_Of.f (k + 5 + l.length) l = some (65535 - F (WL 0 l)) := by
  unfold sum_Of.f
  have hf := F_range (WL 0 l)
  rw [add_eq l k hb hl (by omega) (by omega), Option.bind_some, Int.zero_add, not_u16 hf.1 hf.2]
theorem two_eq {a b : Int} (a0 : 0 ≤ a) (a1 : a ≤ 65535) (b0 : 0 ≤ b) (b1 : b ≤ 65535) : mantletref02_Two.f a b = some (F (a + b)) := by
  unfold mantletref02_Two.f
  rw [w64 (by omega) (by omega)]
  by_cases c : a + b > 65535
  · rw [if_pos c, w64 (by omega) (by omega)]
    congr 1
    unfold F
    rw [if_neg (by omega)]
    omega
  · rw [if_neg c, F_small (by omega) (by omega)]
theorem ref_loop (l : List Int) (hb : ∀ x ∈ l, 0 ≤ x ∧ x < 256) (hl : l.length < 9223372036854775800) (d : Nat) : ∀ (k i : Nat) (s : Int), i % 2 = 0 → l.length ≤ i + 2 * d → 0 ≤ s → s ≤ 65535 → i ≤ l.length + 1 →
    mantletref02_Add.l0 (k + 1 + d) s l (i : Int) = some (F (s + WL 0 (l.drop i))) := by
  induction d with
  | zero =>
    intro k i s _ h s0 s1 _
    simp only [mantletref02_Add.l0]
    rw [if_neg (by omega), List.drop_of_length_le (by omega), WL, Int.add_zero, F_small s0 s1]
  | succ d ih =>
    intro k i s he h s0 s1 hi
    rw [show k + 1 + (d + 1) = (k + 1 + d) + 1 by omega]
    simp only [mantletref02_Add.l0]
    by_cases c : i < l.length
    · obtain ⟨r0, r1⟩ := rd_range hb c
      have e1 : wrap64 (rd l (i : Int)) = rd l (i : Int) := w64 (by omega) (by omega)
      have e2 : wrap64 ((i : Int) + 1) = ((i + 1 : Nat) : Int) := by rw [w64 (by omega) (by omega)]; omega
      have e4 : wrap64 ((i : Int) + 2) = ((i + 2 : Nat) : Int) := by rw [w64 (by omega) (by omega)]; omega
      have e3 : wrap64 (256 * rd l (i : Int)) = 256 * rd l (i : Int) := w64 (by omega) (by omega)
      have hw := WL_nonneg (l.drop (i + 2)) 0 (drop_range hb (i + 2))
      rw [if_pos (by omega), if_pos (by omega), e1, e2, e3, e4]
      by_cases c2 : i + 1 < l.length
      · obtain ⟨q0, q1⟩ := rd_range hb c2
        have e5 : wrap64 (rd l ((i + 1 : Nat) : Int)) = rd l ((i + 1 : Nat) : Int) := w64 (by omega) (by omega)
        have hf := F_range (s + (256 * rd l (i : Int) + rd l ((i + 1 : Nat) : Int)))
        rw [if_pos (by omega), if_pos (by omega), e5, w64 (by omega) (by omega), two_eq s0 s1 (by omega) (by omega), Option.bind_some, ih k (i + 2) _ (by omega) (by omega) hf.1 hf.2 (by omega), F_add (by omega) hw, rd_cons c, WL, rd_cons c2, WL, if_pos (by omega), if_neg (by omega), WL_even _ (0 + 1 + 1) 0 (by omega), show i + 1 + 1 = i + 2 from rfl]
        congr 2
        omega
      · have hf := F_range (s + 256 * rd l (i : Int))
        rw [if_neg (by omega), two_eq s0 s1 (by omega) (by omega), Option.bind_some, ih k (i + 2) _ (by omega) (by omega) hf.1 hf.2 (by omega), F_add (by omega) hw, rd_cons c, WL, List.drop_of_length_le (show l.length ≤ i + 1 by omega), List.drop_of_length_le (show l.length ≤ i + 2 by omega), WL, WL, if_pos (by omega)]
        congr 2
        omega
    · rw [if_neg (by omega), List.drop_of_length_le (by omega), WL, Int.add_zero, F_small s0 s1]
theorem ref_eq (l : List Int) {s : Int} (k : Nat) (hb : ∀ x ∈ l, 0 ≤ x ∧ x < 256) (hl : l.length < 9223372036854775800) (s0 : 0 ≤ s) (s1 : s ≤ 65535) :
    mantletref02_Add.f (k + 1 + l.length) s l = some (F (s + WL 0 l)) := by
  unfold mantletref02_Add.f
  exact ref_loop l hb hl l.length k 0 s (by omega) (by omega) s0 s1 (by omega)
end Go.Proofs.Ytofjgdbiieanjaa.NetSum
