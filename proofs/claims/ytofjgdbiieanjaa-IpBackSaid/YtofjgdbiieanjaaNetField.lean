import Derived.Test.YtofjgdbiieanjaaAllx53
import Derived.Test.YtofjgdbiieanjaaBits
namespace Go.Proofs.Ytofjgdbiieanjaa.NetField
open Go.RowKit Go.Proofs.Ytofjgdbiieanjaa.All Go.Proofs.Ytofjgdbiieanjaa.Bits Go.Proofs.YtofjgdbiieanjaaW.PrintWords Go.Proofs.YtofjgdbiieanjaaW.PrintLast
def numL (x : Int) (l : List Int) : Int := l.foldl (fun a c => a * 256 + c) x
theorem numL_cons (x c : Int) (l : List Int) : numL x (c :: l) = numL (x * 256 + c) l := rfl
theorem rd_cons {l : List Int} {i : Nat} (h : i < l.length) : l.drop i = rd l (i : Int) :: l.drop (i + 1) := by
  rw [List.drop_eq_getElem_cons h]
  unfold rd
  rw [Int.toNat_natCast, List.getD_eq_getElem?_getD, List.getElem?_eq_getElem h]
  rfl
theorem rd_range {l : List Int} (hb : ∀ x ∈ l, 0 ≤ x ∧ x < 256) {i : Nat} (h : i < l.length) : 0 ≤ rd l (i : Int) ∧ rd l (i : Int) < 256 := by
  unfold rd
  rw [Int.toNat_natCast, List.getD_eq_getElem?_getD, List.getElem?_eq_getElem h, Option.getD_some]
  exact hb _ (List.getElem_mem h)
theorem or_byte {x c : Int} (h0 : 0 ≤ x) (h1 : x * 256 < 18446744073709551616) (c0 : 0 ≤ c) (c1 : c < 256) :
    Go.bits .or .u64 (IntKind.u64.wrap (x * 256)) (IntKind.u64.wrap c) = x * 256 + c := by
  rw [wrap_u64, wrap_u64, Int.emod_eq_of_lt (by omega) h1, Int.emod_eq_of_lt c0 (by omega)]
  exact or_join 8 (by omega) (by omega) h1 c0 (by omega) (by omega)
theorem pow256 {m : Nat} (h : m ≤ 8) : (256 : Int) ^ m ≤ 18446744073709551616 := by
  have : m = 0 ∨ m = 1 ∨ m = 2 ∨ m = 3 ∨ m = 4 ∨ m = 5 ∨ m = 6 ∨ m = 7 ∨ m = 8 := by omega
  rcases this with rfl | rfl | rfl | rfl | rfl | rfl | rfl | rfl | rfl <;> decide
theorem num_loop (l : List Int) (hb : ∀ x ∈ l, 0 ≤ x ∧ x < 256) (hl : l.length ≤ 8) (d : Nat) : ∀ (k i : Nat) (x : Int), i + d = l.length → 0 ≤ x → x * 256 ^ d < 18446744073709551616 → x < 256 ^ i →
    field_Num.l0 (k + 1 + d) x l (l.length : Int) (i : Int) = some (numL x (l.drop i), true) := by
  induction d with
  | zero =>
    intro k i x h _ _ _
    simp only [field_Num.l0]
    rw [if_neg (by omega), List.drop_of_length_le (by omega)]
    rfl
  | succ d ih =>
    intro k i x h h0 h1 h2
    rw [show k + 1 + (d + 1) = (k + 1 + d) + 1 by omega]
    simp only [field_Num.l0]
    obtain ⟨r0, r1⟩ := rd_range hb (show i < l.length by omega)
    have hp : (0 : Int) < 256 ^ d := Int.pow_pos (by omega)
    have e1 : x * 256 ^ (d + 1) = x * 256 * 256 ^ d := by rw [Int.pow_succ, Int.mul_comm (256 ^ d) 256, Int.mul_assoc]
    have hx : x * 256 < 18446744073709551616 := by
      have : x * 256 * 1 ≤ x * 256 * 256 ^ d := Int.mul_le_mul_of_nonneg_left (by omega) (by omega)
      omega
    rw [if_pos (by omega), if_pos (by omega), if_pos (by omega), or_byte h0 hx r0 r1, w64 (by omega) (by omega), rd_cons (show i < l.length by omega), numL_cons]
    have e2 : (256 : Int) ^ i * 256 ^ (d + 1) = 256 ^ (i + (d + 1)) := (Int.pow_add 256 i (d + 1)).symm
    have e3 : (256 : Int) ^ (i + (d + 1)) ≤ 18446744073709551616 := pow256 (by omega)
    refine ih k (i + 1) _ (by omega) (by omega) ?_ ?_
    · have e4 : (x * 256 + rd l (i : Int)) < 256 ^ (i + 1) := by rw [Int.pow_succ]; omega
      have e5 : (x * 256 + rd l (i : Int)) * 256 ^ d < 256 ^ (i + 1) * 256 ^ d := Int.mul_lt_mul_of_pos_right e4 hp
      rw [← Int.pow_add, show i + 1 + d = i + (d + 1) by omega] at e5
      omega
    · rw [Int.pow_succ]; omega
/-- A slice of bytes of a slice. -/
def cutL (l : List Int) (a s : Nat) : List Int := (l.take (a + s)).drop a
theorem cutL_length {l : List Int} {a s : Nat} (h : a + s ≤ l.length) : (cutL l a s).length = s := by unfold cutL; rw [List.length_drop, List.length_take]; omega
theorem cutL_mem {l : List Int} {a s : Nat} {x : Int} (h : x ∈ cutL l a s) : x ∈ l := List.mem_of_mem_take (List.mem_of_mem_drop h)
theorem num_yes (l : List Int) (a s k : Nat) (hb : ∀ x ∈ l, 0 ≤ x ∧ x < 256) (h1 : 1 ≤ s) (h8 : s ≤ 8) (h : a + s ≤ l.length) (hl : l.length ≤ 9223372036854775807) :
    field_Num.f (k + 11) l (a : Int) (s : Int) = some (numL 0 (cutL l a s), true) := by
  have hlen := cutL_length h
  have hn := num_loop (cutL l a s) (fun x hx => hb x (cutL_mem hx)) (by omega) s (k + 9 - s) 0 0 (by omega) (by omega) (by omega) (by omega)
  rw [show k + 9 - s + 1 + s = k + 10 by omega] at hn
  unfold field_Num.f
  rw [if_neg (by omega), if_neg (by omega), if_neg (by omega), w64 (by omega) (by omega), decide_eq_false (by omega)]
  simp only [field_Num.j0]
  rw [if_neg (by decide), if_pos (by omega), w64 (by omega) (by omega), if_pos (by omega), if_pos (by omega), Option.bind_some]
  rw [show ((a : Int) + (s : Int)).toNat = a + s by omega, Int.toNat_natCast]
  exact hn
theorem num_no {l : List Int} {a s : Int} (k : Nat) (h : ¬ (0 ≤ a ∧ 1 ≤ s ∧ s ≤ 8 ∧ a ≤ l.length - s)) (hl : l.length ≤ 9223372036854775807) : field_Num.f (k + 1) l a s = some (0, false) := by
  unfold field_Num.f
  have hj : field_Num.j0 (k + 1) l a s true = some (0, false) := by simp only [field_Num.j0]; rw [if_pos trivial]
  by_cases c1 : a < 0
  · rw [if_pos c1, hj]
  · rw [if_neg c1]
    by_cases c2 : s < 1
    · rw [if_pos c2, hj]
    · rw [if_neg c2]
      by_cases c3 : s > 8
      · rw [if_pos c3, hj]
      · rw [if_neg c3, w64 (by omega) (by omega), decide_eq_true (by omega), hj]

/-- A number as bytes, the first one the greatest. -/
def bytesL (v : Nat) : Nat → List Int
  | 0 => []
  | n + 1 => ((v / 2 ^ (8 * n) % 256 : Nat) : Int) :: bytesL v n
theorem bytesL_length (v : Nat) : ∀ n, (bytesL v n).length = n
  | 0 => rfl
  | n + 1 => by rw [bytesL, List.length_cons, bytesL_length v n]
theorem bytesL_range (v : Nat) : ∀ n, ∀ x ∈ bytesL v n, 0 ≤ x ∧ x < 256
  | 0 => by simp [bytesL]
  | n + 1 => by
    intro x hx
    rw [bytesL, List.mem_cons] at hx
    rcases hx with rfl | hx
    · omega
    · exact bytesL_range v n x hx
theorem bytesL_num (v : Nat) : ∀ (n : Nat) (x : Int), numL x (bytesL v n) = x * ((2 ^ (8 * n) : Nat) : Int) + ((v % 2 ^ (8 * n) : Nat) : Int)
  | 0, x => by simp [bytesL, numL, Nat.mod_one]
  | n + 1, x => by
    rw [bytesL, numL_cons, bytesL_num v n]
    have e : 2 ^ (8 * (n + 1)) = 2 ^ (8 * n) * 256 := by rw [show 8 * (n + 1) = 8 * n + 8 by omega, Nat.pow_add]
    rw [e, Nat.mod_mul]
    generalize v / 2 ^ (8 * n) % 256 = b
    generalize v % 2 ^ (8 * n) = m
    generalize 2 ^ (8 * n) = p
    have e1 : ((p * 256 : Nat) : Int) = (p : Int) * 256 := by rw [Int.natCast_mul]; rfl
    have e2 : ((m + p * b : Nat) : Int) = (m : Int) + (p : Int) * (b : Int) := by rw [Int.natCast_add, Int.natCast_mul]
    rw [e1, e2, Int.add_mul, Int.mul_assoc x 256, Int.mul_comm 256 (p : Int), Int.mul_comm (b : Int) (p : Int)]
    omega
theorem bytesL_at (v : Nat) : ∀ (n i : Nat), i < n → (bytesL v n)[i]? = some ((v / 2 ^ (8 * (n - 1 - i)) % 256 : Nat) : Int)
  | n + 1, 0, _ => by simp [bytesL]
  | n + 1, i + 1, h => by
    rw [bytesL, List.getElem?_cons_succ, bytesL_at v n i (by omega)]
    congr 6
    omega
theorem cut_loop (v s : Nat) (hs : s ≤ 8) (d : Nat) : ∀ (k i : Nat) (y : List Int), i + d = s → y.length = s → y.take i = (bytesL v s).take i →
    field_Cut.l0 (k + 1 + d) (v : Int) (s : Int) y (s : Int) (i : Int) = some (bytesL v s) := by
  induction d with
  | zero =>
    intro k i y h hy ht
    simp only [field_Cut.l0]
    rw [if_neg (by omega)]
    have hl := bytesL_length v s
    rw [List.take_of_length_le (by omega), List.take_of_length_le (by omega)] at ht
    rw [ht]
  | succ d ih =>
    intro k i y h hy ht
    rw [show k + 1 + (d + 1) = (k + 1 + d) + 1 by omega]
    simp only [field_Cut.l0]
    rw [w64 (n := (s : Int) - 1) (by omega) (by omega), w64 (n := (s : Int) - 1 - (i : Int)) (by omega) (by omega), w64 (n := 8 * ((s : Int) - 1 - (i : Int))) (by omega) (by omega), w64 (n := (i : Int) + 1) (by omega) (by omega)]
    rw [if_pos (by omega), if_pos (by omega), if_pos (by omega), if_pos (by omega)]
    rw [show 8 * ((s : Int) - 1 - (i : Int)) = ((8 * (s - 1 - i) : Nat) : Int) by omega, shr_nat _ _ (by omega), Int.toNat_natCast]
    refine ih k (i + 1) _ (by omega) (by rw [List.length_set]; exact hy) ?_
    have hl := bytesL_length v s
    have hb := bytesL_at v s i (by omega)
    rw [List.take_add_one, List.take_add_one, hb, List.take_set_of_le (by omega), ht, List.getElem?_set_self (by omega)]
    simp
theorem cut_yes (v s k : Nat) (h1 : 1 ≤ s) (h8 : s ≤ 8) : field_Cut.f (k + 11) (v : Int) (s : Int) = some (bytesL v s) := by
  have hn := cut_loop v s h8 s (k + 9 - s) 0 (List.replicate s 0) (by omega) (by simp) (by simp)
  rw [show k + 9 - s + 1 + s = k + 10 by omega] at hn
  unfold field_Cut.f
  rw [if_neg (by omega), decide_eq_false (by omega)]
  simp only [field_Cut.j0]
  rw [if_neg (by decide), if_pos (by omega), Int.toNat_natCast, if_pos (by omega), Option.bind_some, List.length_replicate]
  exact hn
theorem cut_no {v s : Int} (k : Nat) (h : ¬ (1 ≤ s ∧ s ≤ 8)) : field_Cut.f (k + 1) v s = some [] := by
  unfold field_Cut.f
  have hj : field_Cut.j0 (k + 1) v s true = some [] := by simp only [field_Cut.j0]; rw [if_pos trivial]
  by_cases c1 : s < 1
  · rw [if_pos c1, hj]
  · rw [if_neg c1, decide_eq_true (by omega), hj]
end Go.Proofs.Ytofjgdbiieanjaa.NetField
