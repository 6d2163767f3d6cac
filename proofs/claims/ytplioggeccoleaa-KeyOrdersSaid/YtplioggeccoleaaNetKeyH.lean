import Derived.Test.YtplioggeccoleaaKeyx13
import Derived.Test.YtplioggeccoleaaKeyx24
import Derived.Test.YtplioggeccoleaaNetKey
namespace Go.Proofs.Ytplioggeccoleaa.NetKey
open Go.RowKit Go.Proofs.Ytplioggeccoleaa.Key Go.Proofs.Ytplioggeccoleaa.Ext Go.Proofs.Ytplioggeccoleaa.Bits Go.Proofs.YtplioggeccoleaaW.PrintWords Go.Proofs.YtplioggeccoleaaW.PrintLast
/-- A number as bytes, the first one the greatest. -/
def bytesL (v : Nat) : Nat → List Int
  | 0 => []
  | n + 1 => ((v / 2 ^ (8 * n) % 256 : Nat) : Int) :: bytesL v n
theorem bytesL_length (v : Nat) : ∀ n, (bytesL v n).length = n
  | 0 => rfl
  | n + 1 => by rw [bytesL, List.length_cons, bytesL_length v n]
theorem bytesL_at (v : Nat) : ∀ (n i : Nat), i < n → (bytesL v n)[i]? = some ((v / 2 ^ (8 * (n - 1 - i)) % 256 : Nat) : Int)
  | n + 1, 0, _ => by simp [bytesL]
  | n + 1, i + 1, h => by
    rw [bytesL, List.getElem?_cons_succ, bytesL_at v n i (by omega)]
    congr 6
    omega
theorem cut_loop (v s : Nat) (hs : s ≤ 8) (d : Nat) : ∀ (k i : Nat) (y : List Int), i + d = s → y.length = s → y.take i = (bytesL v s).take i →
    field_Cut.l0 (k + 1 + d) (v : Int) (s : Int) y (s : Int) (i : Int) = some (bytesL v s) := by
  induction d with
  | zero =>
    intro k i y h hy ht
    simp only [field_Cut.l0]
    rw [if_neg (by omega)]
    have hl := bytesL_length v s
    rw [List.take_of_length_le (by omega), List.take_of_length_le (by omega)] at ht
    rw [ht]
  | succ d ih =>
    intro k i y h hy ht
    rw [show k + 1 + (d + 1) = (k + 1 + d) + 1 by omega]
    simp only [field_Cut.l0]
    rw [w64 (n := (s : Int) - 1) (by omega) (by omega), w64 (n := (s : Int) - 1 - (i : Int)) (by omega) (by omega), w64 (n := 8 * ((s : Int) - 1 - (i : Int))) (by omega) (by omega), w64 (n := (i : Int) + 1) (by omega) (by omega)]
    rw [if_pos (by omega), if_pos (by omega), if_pos (by omega), if_pos (by omega)]
    rw [show 8 * ((s : Int) - 1 - (i : Int)) = ((8 * (s - 1 - i) : Nat) : Int) by omega, shr_nat _ _ (by omega), Int.toNat_natCast]
    refine ih k (i + 1) _ (by omega) (by rw [List.length_set]; exact hy) ?_
    have hl := bytesL_length v s
    have hb := bytesL_at v s i (by omega)
    rw [List.take_add_one, List.take_add_one, hb, List.take_set_of_le (by omega), ht, List.getElem?_set_self (by omega)]
    simp
theorem cut_yes (v s k : Nat) (h1 : 1 ≤ s) (h8 : s ≤ 8) : field_Cut.f (k + 11) (v : Int) (s : Int) = some (bytesL v s) := by
  have hn := cut_loop v s h8 s (k + 9 - s) 0 (List.replicate s 0) (by omega) (by simp) (by simp)
  rw [show k + 9 - s + 1 + s = k + 10 by omega] at hn
  unfold field_Cut.f
  rw [if_neg (by omega), decide_eq_false (by omega)]
  simp only [field_Cut.j0]
  rw [if_neg (by decide), if_pos (by omega), Int.toNat_natCast, if_pos (by omega), Option.bind_some, List.length_replicate]
  exact hn
/-- slices.Concat -/
theorem concat_l1 (ls : List (List Int)) (hn : ls.length ≤ 1000) (d : Nat) : ∀ (k i : Nat) (y : List Int), i + d = ls.length → y.length + ((ls.drop i).flatten).length < 140737488355328 →
    slices_Concat_byte_byte.l1 (k + 1 + d) y ls (ls.length : Int) (i : Int) = some (y ++ (ls.drop i).flatten) := by
  induction d with
  | zero =>
    intro k i y hi hlt
    rw [show k + 1 + 0 = k + 1 by omega]
    simp only [slices_Concat_byte_byte.l1]
    rw [if_neg (by omega), List.drop_eq_nil_of_le (by omega), List.flatten_nil, List.append_nil]
  | succ d ih =>
    intro k i y hi hlt
    have hi2 : i < ls.length := by omega
    have hd : ls.drop i = ls[i] :: ls.drop (i + 1) := List.drop_eq_getElem_cons hi2
    have hr : rd_L2 ls (i : Int) = ls[i] := by unfold rd_L2; rw [Int.toNat_natCast, List.getD_eq_getElem?_getD, List.getElem?_eq_getElem hi2]; rfl
    rw [hd, List.flatten_cons, List.length_append] at hlt
    rw [show k + 1 + (d + 1) = (k + 1 + d) + 1 by omega]
    simp only [slices_Concat_byte_byte.l1]
    rw [if_pos (by omega), if_pos (by omega), if_pos (by omega), hr, if_pos (by omega), w64 (by omega) (by omega), show (i : Int) + 1 = ((i + 1 : Nat) : Int) by omega, ih k (i + 1) _ (by omega) (by rw [List.length_append]; omega), hd, List.flatten_cons, List.append_assoc]
theorem concat_l0 (ls : List (List Int)) (hn : ls.length ≤ 1000) (ht : ls.flatten.length < 140737488355328) (d : Nat) : ∀ (k i s : Nat), i + d = ls.length → s + ((ls.drop i).flatten).length = ls.flatten.length →
    slices_Concat_byte_byte.l0 (k + 2 + ls.length + d) ls (s : Int) ls (ls.length : Int) (i : Int) = some ls.flatten := by
  induction d with
  | zero =>
    intro k i s hi hs
    rw [List.drop_eq_nil_of_le (by omega), List.flatten_nil, List.length_nil] at hs
    rw [show k + 2 + ls.length + 0 = (k + 1 + ls.length) + 1 by omega]
    simp only [slices_Concat_byte_byte.l0]
    rw [if_neg (by omega)]
    unfold slices_Grow.f
    rw [if_pos (by omega), Option.bind_some]
    have h := concat_l1 ls hn ls.length k 0 [] (by omega) (by rw [List.drop_zero, List.length_nil]; omega)
    rw [List.drop_zero, List.nil_append] at h
    exact h
  | succ d ih =>
    intro k i s hi hs
    have hi2 : i < ls.length := by omega
    have hd : ls.drop i = ls[i] :: ls.drop (i + 1) := List.drop_eq_getElem_cons hi2
    have hr : rd_L2 ls (i : Int) = ls[i] := by unfold rd_L2; rw [Int.toNat_natCast, List.getD_eq_getElem?_getD, List.getElem?_eq_getElem hi2]; rfl
    rw [hd, List.flatten_cons, List.length_append] at hs
    rw [show k + 2 + ls.length + (d + 1) = (k + 2 + ls.length + d) + 1 by omega]
    simp only [slices_Concat_byte_byte.l0]
    rw [if_pos (by omega), if_pos (by omega), if_pos (by omega), hr, w64 (n := (s : Int) + _) (by omega) (by omega), if_neg (by omega), w64 (by omega) (by omega), show (i : Int) + 1 = ((i + 1 : Nat) : Int) by omega, show (s : Int) + (ls[i].length : Int) = ((s + ls[i].length : Nat) : Int) by omega]
    exact ih k (i + 1) _ (by omega) (by omega)
theorem concat_eq (ls : List (List Int)) (k : Nat) (hn : ls.length ≤ 1000) (ht : ls.flatten.length < 140737488355328) :
    slices_Concat_byte_byte.f (k + 2 + ls.length + ls.length) ls = some ls.flatten := by
  unfold slices_Concat_byte_byte.f
  exact concat_l0 ls hn ht ls.length k 0 0 (by omega) (by rw [List.drop_zero]; omega)
/-- One byte more into a flow's number. -/
def mixL (h : Nat) (c : Nat) : Nat := (h ^^^ c) * 16777619 % 4294967296
theorem mixL_lt (h c : Nat) : mixL h c < 4294967296 := Nat.mod_lt _ (by decide)
theorem mix32 {h c : Nat} (hh : h < 4294967296) (hc : c < 256) : (Go.bits .xor .u32 (h : Int) ((c : Int) % 4294967296) * 16777619) % 4294967296 = (mixL h c : Int) := by
  have e : (c : Int) % 4294967296 = (c : Int) := by omega
  rw [e, (bits_nats .u32 rfl h c (by simpa [IntKind.bits] using hh) (by simp [IntKind.bits]; omega)).2.2.1]
  unfold mixL
  omega
theorem mix64 {h c : Nat} (hh : h < 4294967296) (hc : c < 256) : Int.tmod (IntKind.u64.wrap (Go.bits .xor .u64 (h : Int) (c : Int) * 16777619)) 4294967296 = (mixL h c : Int) := by
  have hx : h ^^^ c < 2 ^ 32 := Nat.xor_lt_two_pow (by omega) (by omega)
  rw [xor_nat h c (by omega) (by omega), wrap_u64, Int.tmod_eq_emod_of_nonneg (by omega)]
  unfold mixL
  omega
/-- The number of bytes one after the other. -/
def hashL (h : Nat) : List Int → Nat
  | [] => h
  | c :: l => hashL (mixL h c.toNat) l
theorem hash_loop (l : List Int) (hb : ∀ x ∈ l, 0 ≤ x ∧ x < 256) (hl : l.length < 1000) (d : Nat) : ∀ (k i h : Nat), i + d = l.length → h < 4294967296 →
    key_Hash.l1 (k + 1 + d) (h : Int) l (l.length : Int) (i : Int) = some ((hashL h (l.drop i) : Nat) : Int) := by
  induction d with
  | zero =>
    intro k i h hi hh
    simp only [key_Hash.l1]
    rw [if_neg (by omega), List.drop_of_length_le (by omega)]
    rfl
  | succ d ih =>
    intro k i h hi hh
    rw [show k + 1 + (d + 1) = (k + 1 + d) + 1 by omega]
    simp only [key_Hash.l1]
    have hd := rd_at (show i < l.length by omega)
    have hr := hb (rd l (i : Int)) (List.mem_of_mem_drop (hd ▸ List.mem_cons_self ..))
    obtain ⟨c, hc⟩ := Int.eq_ofNat_of_zero_le hr.1
    rw [if_pos (by omega), if_pos (by omega), if_pos (by omega), w64 (by omega) (by omega), show (i : Int) + 1 = ((i + 1 : Nat) : Int) by omega, hd]
    rw [hc] at hr ⊢
    rw [mix32 hh (by omega), ih k (i + 1) _ (by omega) (mixL_lt _ _)]
    simp [hashL]
def flowL (a0 a1 p0 p1 pr : Int) : List Int := [pr] ++ (bytesL a0.toNat 4 ++ bytesL p0.toNat 2) ++ (bytesL a1.toNat 4 ++ bytesL p1.toNat 2)
theorem mix_last (h c : Nat) : ((mixL h c : Nat) : Int) % 4294967296 = ((mixL h c : Nat) : Int) := Int.emod_eq_of_lt (by omega) (by have := mixL_lt h c; omega)
theorem bytesL_range (v : Nat) : ∀ n, ∀ x ∈ bytesL v n, 0 ≤ x ∧ x < 256
  | 0 => by simp [bytesL]
  | n + 1 => by
    intro x hx
    rw [bytesL, List.mem_cons] at hx
    rcases hx with rfl | hx
    · omega
    · exact bytesL_range v n x hx
theorem hash_eq (k : Nat) {a0 a1 p0 p1 pr : Int} (a00 : 0 ≤ a0) (a01 : a0 < 4294967296) (a10 : 0 ≤ a1) (a11 : a1 < 4294967296) (p00 : 0 ≤ p0) (p01 : p0 < 65536) (p10 : 0 ≤ p1) (p11 : p1 < 65536) (r0 : 0 ≤ pr) (r1 : pr < 256) :
    key_Hash.f (k + 20) a0 a1 p0 p1 pr = some ((hashL 2166136261 (flowL a0 a1 p0 p1 pr) : Nat) : Int) := by
  have c : ∀ (v : Int) (s : Nat), 0 ≤ v → v < 18446744073709551616 → 1 ≤ s → s ≤ 8 → field_Cut.f (k + 20) (IntKind.u64.wrap v) (s : Int) = some (bytesL v.toNat s) := by
    intro v s h0 h1 s1 s8
    have h := cut_yes v.toNat s (k + 9) s1 s8
    rw [show k + 9 + 11 = k + 20 by omega] at h
    rw [wrap_u64, show v % 18446744073709551616 = ((v.toNat : Nat) : Int) by omega]
    exact h
  have n : ∀ x y z : List Int, x.length ≤ 100 → y.length ≤ 100 → z.length ≤ 100 → slices_Concat_byte_byte.f (k + 20) [x, y, z] = some (x ++ (y ++ z)) := by
    intro x y z hx hy hz
    have h := concat_eq [x, y, z] (k + 12) (by simp) (by simp; omega)
    simp only [List.flatten_cons, List.flatten_nil, List.append_nil, List.length_cons, List.length_nil] at h
    rw [show k + 12 + 2 + (0 + 1 + 1 + 1) + (0 + 1 + 1 + 1) = k + 20 by omega] at h
    exact h
  have c1 : field_Cut.f (k + 20) (IntKind.u64.wrap a0) 4 = some (bytesL a0.toNat 4) := c a0 4 a00 (by omega) (by decide) (by decide)
  have c2 : field_Cut.f (k + 20) (IntKind.u64.wrap p0) 2 = some (bytesL p0.toNat 2) := c p0 2 p00 (by omega) (by decide) (by decide)
  have c3 : field_Cut.f (k + 20) (IntKind.u64.wrap a1) 4 = some (bytesL a1.toNat 4) := c a1 4 a10 (by omega) (by decide) (by decide)
  have c4 : field_Cut.f (k + 20) (IntKind.u64.wrap p1) 2 = some (bytesL p1.toNat 2) := c p1 2 p10 (by omega) (by decide) (by decide)
  unfold key_Hash.f
  rw [c1, Option.bind_some, c2, Option.bind_some, n _ _ _ (by simp) (by simp [bytesL_length]) (by simp [bytesL_length]), Option.bind_some, c3, Option.bind_some, c4, Option.bind_some, n _ _ _ (by simp [bytesL_length]) (by simp [bytesL_length]) (by simp [bytesL_length]), Option.bind_some]
  have hl : ([pr] ++ (bytesL a0.toNat 4 ++ bytesL p0.toNat 2) ++ (bytesL a1.toNat 4 ++ bytesL p1.toNat 2)).length = 13 := by simp [bytesL_length]
  have h := hash_loop ([pr] ++ (bytesL a0.toNat 4 ++ bytesL p0.toNat 2) ++ (bytesL a1.toNat 4 ++ bytesL p1.toNat 2)) ?_ (by omega) 13 (k + 6) 0 2166136261 (by omega) (by omega)
  · rw [show k + 6 + 1 + 13 = k + 20 by omega, List.drop_zero, show ((2166136261 : Nat) : Int) = 2166136261 from rfl, show ((0 : Nat) : Int) = 0 from rfl] at h
    exact h
  · intro x hx
    simp only [List.mem_append, List.mem_singleton] at hx
    rcases hx with (rfl | hx | hx) | hx | hx
    · exact ⟨r0, r1⟩
    all_goals exact bytesL_range _ _ x hx
theorem refHash_eq {a0 a1 p0 p1 pr : Int} (a00 : 0 ≤ a0) (a01 : a0 < 4294967296) (a10 : 0 ≤ a1) (a11 : a1 < 4294967296) (p00 : 0 ≤ p0) (p01 : p0 < 65536) (p10 : 0 ≤ p1) (p11 : p1 < 65536) (r0 : 0 ≤ pr) (r1 : pr < 256) :
    mantletref10_Hash.f a0 a1 p0 p1 pr = some ((hashL 2166136261 (flowL a0 a1 p0 p1 pr) : Nat) : Int) := by
  have b : ∀ a p : Int, 0 ≤ a → a < 4294967296 → 0 ≤ p → p < 65536 → Int.tmod ((a * 65536 + p) / 1099511627776) 256 = ((a.toNat / 2 ^ (8 * 3) % 256 : Nat) : Int) ∧ Int.tmod ((a * 65536 + p) / 4294967296) 256 = ((a.toNat / 2 ^ (8 * 2) % 256 : Nat) : Int) ∧
      Int.tmod ((a * 65536 + p) / 16777216) 256 = ((a.toNat / 2 ^ (8 * 1) % 256 : Nat) : Int) ∧ Int.tmod ((a * 65536 + p) / 65536) 256 = ((a.toNat / 2 ^ (8 * 0) % 256 : Nat) : Int) ∧
      Int.tmod ((a * 65536 + p) / 256) 256 = ((p.toNat / 2 ^ (8 * 1) % 256 : Nat) : Int) ∧ Int.tmod (a * 65536 + p) 256 = ((p.toNat / 2 ^ (8 * 0) % 256 : Nat) : Int) := by
    intro a p h0 h1 g0 g1
    refine ⟨?_, ?_, ?_, ?_, ?_, ?_⟩ <;> rw [Int.tmod_eq_emod_of_nonneg (by omega)] <;> omega
  obtain ⟨b1, b2, b3, b4, b5, b6⟩ := b a0 p0 a00 a01 p00 p01
  obtain ⟨d1, d2, d3, d4, d5, d6⟩ := b a1 p1 a10 a11 p10 p11
  unfold mantletref10_Hash.f
  rw [end_eq a00 a01 p00 p01, end_eq a10 a11 p10 p11]
  simp only [Option.bind_some]
  rw [b1, b2, b3, b4, b5, b6, d1, d2, d3, d4, d5, d6, show IntKind.u64.wrap pr = ((pr.toNat : Nat) : Int) by rw [wrap_u64]; omega, show (2166136261 : Int) = ((2166136261 : Nat) : Int) from rfl]
  rw [mix64 (by omega) (by omega)]
  iterate 12 rw [mix64 (mixL_lt _ _) (by omega)]
  rw [mix_last]
  simp only [flowL, bytesL, List.cons_append, List.nil_append, hashL, Int.toNat_natCast]
end Go.Proofs.Ytplioggeccoleaa.NetKey
