import Derived.Test.YtofjgdbiieanjaaAllx53
import Derived.Test.YtofjgdbiieanjaaNetSum
import Derived.Test.YtofjgdbiieanjaaNetField
import Derived.Test.YtofjgdbiieanjaaExt
namespace Go.Proofs.Ytofjgdbiieanjaa.NetRef
open Go.RowKit Go.Proofs.Ytofjgdbiieanjaa.All Go.Proofs.Ytofjgdbiieanjaa.Ext Go.Proofs.Ytofjgdbiieanjaa.Bits Go.Proofs.YtofjgdbiieanjaaW.PrintWords Go.Proofs.YtofjgdbiieanjaaW.PrintLast Go.Proofs.Ytofjgdbiieanjaa.NetField
/-! What the small functions of the packets come to. -/
/-- Bytes. -/
abbrev Byte (l : List Int) : Prop := ∀ x ∈ l, 0 ≤ x ∧ x < 256
theorem byte_of {l : List Int} (h : ∀ x ∈ l, (Lit.int .u8 x).wf = true) : Byte l := fun x hx => wf_u8 (h x hx)
theorem byte_app {l m : List Int} (h : Byte l) (h2 : Byte m) : Byte (l ++ m) := fun x hx => (List.mem_append.1 hx).elim (h x) (h2 x)
theorem byte_take {l : List Int} (h : Byte l) (n : Nat) : Byte (l.take n) := fun x hx => h x (List.mem_of_mem_take hx)
theorem byte_drop {l : List Int} (h : Byte l) (n : Nat) : Byte (l.drop n) := fun x hx => h x (List.mem_of_mem_drop hx)
theorem byte_nil : Byte [] := fun x hx => by cases hx
theorem byte_cons {x : Int} {l : List Int} (h : 0 ≤ x ∧ x < 256) (h2 : Byte l) : Byte (x :: l) := fun y hy => by
  rcases List.mem_cons.1 hy with rfl | hy
  · exact h
  · exact h2 y hy
theorem byte_bytesL (v n : Nat) : Byte (bytesL v n) := bytesL_range v n
/-- The bytes that count. -/
def shortL (l : List Int) : List Int := if l.length > 1600 then l.take 1600 else l
theorem short_length (l : List Int) : (shortL l).length ≤ 1600 := by unfold shortL; split <;> (try rw [List.length_take]) <;> omega
theorem short_byte {l : List Int} (h : Byte l) : Byte (shortL l) := by 
  unfold shortL
  split
  · exact byte_take h _
  · exact h
theorem short_of (l : List Int) : (if (l.length : Int) > 1600 then (if 1600 ≤ (l.length : Int) then some (l.take 1600) else none) else some l) = some (shortL l) := by
  unfold shortL
  by_cases h : l.length > 1600
  · rw [if_pos (by omega), if_pos (by omega), if_pos h]
  · rw [if_neg (by omega), if_neg h]
/-- A number of two bytes. -/
def two (l : List Int) (i : Nat) : Int := 256 * rd l (i : Int) + rd l ((i + 1 : Nat) : Int)
theorem rd_byte {l : List Int} (hb : Byte l) {i : Nat} (h : i < l.length) : 0 ≤ rd l (i : Int) ∧ rd l (i : Int) < 256 := rd_range hb h
theorem two_range {l : List Int} (hb : Byte l) {i : Nat} (h : i + 1 < l.length) : 0 ≤ two l i ∧ two l i ≤ 65535 := by
  have h1 := rd_byte hb (show i < l.length by omega)
  have h2 := rd_byte hb h
  unfold two; omega
theorem two_at {l : List Int} (hb : Byte l) {i : Nat} (h : i + 1 < l.length) (hi : i < 1000000) : mantletref04_Two.f l (i : Int) = some (two l i) := by
  have h1 := rd_byte hb (show i < l.length by omega)
  have h2 := rd_byte hb h
  have e : wrap64 ((i : Int) + 1) = ((i + 1 : Nat) : Int) := by rw [w64 (by omega) (by omega)]; omega
  unfold mantletref04_Two.f
  rw [e, if_pos (by omega), if_pos (by omega), if_pos (by omega), if_pos (by omega), w64 (n := rd l (i : Int)) (by omega) (by omega), w64 (n := rd l ((i + 1 : Nat) : Int)) (by omega) (by omega), w64 (n := 256 * rd l (i : Int)) (by omega) (by omega), w64 (by omega) (by omega)]
  rfl
theorem num_two {l : List Int} {i : Nat} (h : i + 1 < l.length) : numL 0 (cutL l i 2) = two l i := by
  have e : cutL l i 2 = [rd l (i : Int), rd l ((i + 1 : Nat) : Int)] := by
    unfold cutL
    have h1 := rd_cons (l := l.take (i + 2)) (i := i) (by rw [List.length_take]; omega)
    have h2 := rd_cons (l := l.take (i + 2)) (i := i + 1) (by rw [List.length_take]; omega)
    have h3 : (l.take (i + 2)).drop (i + 1 + 1) = [] := List.drop_eq_nil_of_le (by rw [List.length_take]; omega)
    rw [h3] at h2
    rw [h2] at h1
    rw [h1]
    have r : ∀ j : Nat, j < i + 2 → rd (l.take (i + 2)) (j : Int) = rd l (j : Int) := by
      intro j hj
      simp only [rd, Int.toNat_natCast, List.getD_eq_getElem?_getD, List.getElem?_take]
      rw [if_pos hj]
    rw [r i (by omega), r (i + 1) (by omega)]
  rw [e]
  simp only [numL, List.foldl_cons, List.foldl_nil, two]; omega
theorem num2 {l : List Int} (hb : Byte l) {i : Nat} (k : Nat) (h : i + 1 < l.length) (hl : l.length ≤ 9223372036854775807) : field_Num.f (k + 11) l (i : Int) 2 = some (two l i, true) := by
  have h1 := num_yes l i 2 k hb (by omega) (by omega) (by omega) hl
  rw [num_two h] at h1
  exact h1
theorem put_two {n : Int} (h0 : 0 ≤ n) (h1 : n ≤ 65535) : mantletref04_Put.f n = some (bytesL n.toNat 2) := by
  unfold mantletref04_Put.f
  have e : wrap64 (Int.tdiv n 256) = n / 256 := by rw [Int.tdiv_eq_ediv_of_nonneg h0, w64 (by omega) (by omega)]
  have e2 : Int.tmod (n / 256) 256 = n / 256 % 256 := Int.tmod_eq_emod_of_nonneg (by omega)
  have e3 : Int.tmod n 256 = n % 256 := Int.tmod_eq_emod_of_nonneg h0
  rw [e, e2, e3]
  simp only [bytesL]
  congr 2
  · omega
  · congr 1; omega
/-- slices.Concat -/
theorem concat_l1 (ls : List (List Int)) (hn : ls.length ≤ 1000) (d : Nat) : ∀ (k i : Nat) (y : List Int), i + d = ls.length → y.length + ((ls.drop i).flatten).length < 140737488355328 →
    slices_Concat_byte_byte.l1 (k + 1 + d) y ls (ls.length : Int) (i : Int) = some (y ++ (ls.drop i).flatten) := by
  induction d with
  | zero =>
    intro k i y hi hlt
    rw [show k + 1 + 0 = k + 1 by omega]
    simp only [slices_Concat_byte_byte.l1]
    rw [if_neg (by omega), List.drop_eq_nil_of_le (by omega), List.flatten_nil, List.append_nil]
  | succ d ih =>
    intro k i y hi hlt
    have hi2 : i < ls.length := by omega
    have hd : ls.drop i = ls[i] :: ls.drop (i + 1) := List.drop_eq_getElem_cons hi2
    have hr : rd_L1 ls (i : Int) = ls[i] := by unfold rd_L1; rw [Int.toNat_natCast, List.getD_eq_getElem?_getD, List.getElem?_eq_getElem hi2]; rfl
    rw [hd, List.flatten_cons, List.length_append] at hlt
    rw [show k + 1 + (d + 1) = (k + 1 + d) + 1 by omega]
    simp only [slices_Concat_byte_byte.l1]
    rw [if_pos (by omega), if_pos (by omega), if_pos (by omega), hr, if_pos (by omega), w64 (by omega) (by omega), show (i : Int) + 1 = ((i + 1 : Nat) : Int) by omega, ih k (i + 1) _ (by omega) (by rw [List.length_append]; omega), hd, List.flatten_cons, List.append_assoc]
theorem concat_l0 (ls : List (List Int)) (hn : ls.length ≤ 1000) (ht : ls.flatten.length < 140737488355328) (d : Nat) : ∀ (k i s : Nat), i + d = ls.length → s + ((ls.drop i).flatten).length = ls.flatten.length →
    slices_Concat_byte_byte.l0 (k + 2 + ls.length + d) ls (s : Int) ls (ls.length : Int) (i : Int) = some ls.flatten := by
  induction d with
  | zero =>
    intro k i s hi hs
    rw [List.drop_eq_nil_of_le (by omega), List.flatten_nil, List.length_nil] at hs
    rw [show k + 2 + ls.length + 0 = (k + 1 + ls.length) + 1 by omega]
    simp only [slices_Concat_byte_byte.l0]
    rw [if_neg (by omega)]
    unfold slices_Grow.f
    rw [if_pos (by omega), Option.bind_some]
    have h := concat_l1 ls hn ls.length k 0 [] (by omega) (by rw [List.drop_zero, List.length_nil]; omega)
    rw [List.drop_zero, List.nil_append] at h
    exact h
  | succ d ih =>
    intro k i s hi hs
    have hi2 : i < ls.length := by omega
    have hd : ls.drop i = ls[i] :: ls.drop (i + 1) := List.drop_eq_getElem_cons hi2
    have hr : rd_L1 ls (i : Int) = ls[i] := by unfold rd_L1; rw [Int.toNat_natCast, List.getD_eq_getElem?_getD, List.getElem?_eq_getElem hi2]; rfl
    rw [hd, List.flatten_cons, List.length_append] at hs
    rw [show k + 2 + ls.length + (d + 1) = (k + 2 + ls.length + d) + 1 by omega]
    simp only [slices_Concat_byte_byte.l0]
    rw [if_pos (by omega), if_pos (by omega), if_pos (by omega), hr, w64 (n := (s : Int) + _) (by omega) (by omega), if_neg (by omega), w64 (by omega) (by omega), show (i : Int) + 1 = ((i + 1 : Nat) : Int) by omega, show (s : Int) + (ls[i].length : Int) = ((s + ls[i].length : Nat) : Int) by omega]
    exact ih k (i + 1) _ (by omega) (by omega)
theorem concat_eq (ls : List (List Int)) (k : Nat) (hn : ls.length ≤ 1000) (ht : ls.flatten.length < 140737488355328) :
    slices_Concat_byte_byte.f (k + 2 + ls.length + ls.length) ls = some ls.flatten := by
  unfold slices_Concat_byte_byte.f
  exact concat_l0 ls hn ht ls.length k 0 0 (by omega) (by rw [List.drop_zero]; omega)
end Go.Proofs.Ytofjgdbiieanjaa.NetRef
