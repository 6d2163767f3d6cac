import Derived.Test.YtjmdidbhocmhgaaSumWordSmz
namespace Go.Proofs.Ytjmdidbhocmhgaa.SumWordSmz
open Go.RowKit Go.Proofs.Ytjmdidbhocmhgaa.Smz Go.Proofs.Ytjmdidbhocmhgaa.Bits Go.Proofs.YtjmdidbhocmhgaaW.PrintWords Go.Proofs.YtjmdidbhocmhgaaW.PrintLast
/-! Sums of bytes of which some are others. -/
theorem awake : mantletlaw02_awake.f 100 = some true := by kernel_rfl
theorem awake_from (k : Nat) : mantletlaw02_awake.f (k + 100) = some true := by
  induction k with
  | zero => rw [Nat.zero_add]; exact awake
  | succ k ih => rw [show k + 1 + 100 = (k + 100) + 1 by omega]; exact mantletlaw02_awake.mono _ _ ih
/-- The bytes that count. -/
def shortL (l : List Int) : List Int := if l.length > 3000 then l.take 3000 else l
theorem short_eq (l : List Int) : mantletlaw02_short.f l = some (shortL l) := by
  unfold mantletlaw02_short.f shortL
  by_cases c : l.length > 3000
  · rw [if_pos (by omega), if_pos (by omega), if_pos c]
  · rw [if_neg (by omega), if_neg c]
theorem short_length (l : List Int) : (shortL l).length ≤ 3000 := by
  unfold shortL
  split
  · rw [List.length_take]; omega
  · omega
theorem short_mem {l : List Int} {x : Int} (h : x ∈ shortL l) : x ∈ l := by
  unfold shortL at h
  split at h
  · exact List.mem_of_mem_take h
  · exact h
theorem add_some (l : List Int) {s : Int} (k : Nat) (hb : ∀ x ∈ l, 0 ≤ x ∧ x < 256) (hl : l.length ≤ 6000) (hk : 6100 ≤ k) (s0 : 0 ≤ s) (s1 : s ≤ 65535) : sum_Add.f k s l = some (F (s + WL 0 l)) := by
  have h := add_eq l (s := s) (k - 5 - l.length) hb (by omega) s0 s1
  rwa [show k - 5 - l.length + 5 + l.length = k by omega] at h
theorem of_some (l : List Int) (k : Nat) (hb : ∀ x ∈ l, 0 ≤ x ∧ x < 256) (hl : l.length ≤ 6000) (hk : 6100 ≤ k) : sum_Of.f k l = some (65535 - F (WL 0 l)) := by
  have h := of_eq l (k - 5 - l.length) hb (by omega)
  rwa [show k - 5 - l.length + 5 + l.length = k by omega] at h
theorem edit_eq {c w i : Int} (k : Nat) (c0 : 0 ≤ c) (c1 : c ≤ 65535) (w0 : 0 ≤ w) (w1 : w ≤ 65535) (i0 : 0 ≤ i) (i1 : i ≤ 65535) :
    sum_Edit.f (k + 4) c w i = some (65535 - F (65535 - c + (65535 - w) + i)) := by
  unfold sum_Edit.f
  have hf := F_range (65535 - c + (65535 - w))
  have hg := F_range (65535 - c + (65535 - w) + i)
  rw [not_u16 c0 c1, not_u16 w0 w1, show ((65535 - c) % 4294967296 + (65535 - w) % 4294967296) % 4294967296 = 65535 - c + (65535 - w) by omega, fold_eq k (by omega) (by omega), Option.bind_some]
  rw [show (F (65535 - c + (65535 - w)) % 4294967296 + i % 4294967296) % 4294967296 = F (65535 - c + (65535 - w)) + i by omega, fold_eq k (by omega) (by omega), Option.bind_some, F_add (by omega) i0, not_u16 hg.1 hg.2]
/-- A byte is another one. -/
theorem WL_set : ∀ (l : List Int) (p i : Nat) (v : Int), i < l.length → WL p (l.set i v) = WL p l + (if (p + i) % 2 = 0 then 256 * (v - rd l (i : Int)) else v - rd l (i : Int))
  | c :: t, p, 0, v, _ => by
    rw [List.set_cons_zero, WL, WL, show rd (c :: t) ((0 : Nat) : Int) = c from rfl, Nat.add_zero]
    split <;> omega
  | c :: t, p, i + 1, v, h => by
    have e : rd (c :: t) ((i + 1 : Nat) : Int) = rd t (i : Int) := by
      unfold rd
      rw [Int.toNat_natCast, Int.toNat_natCast, List.getD_cons_succ]
    rw [List.set_cons_succ, WL, WL, WL_set t (p + 1) i v (by simpa using h), e, show p + 1 + i = p + (i + 1) by omega]
    omega
theorem set_range {l : List Int} (hb : ∀ x ∈ l, 0 ≤ x ∧ x < 256) {i : Nat} {v : Int} (v0 : 0 ≤ v) (v1 : v < 256) : ∀ x ∈ l.set i v, 0 ≤ x ∧ x < 256 := by
  intro x hx
  rcases List.mem_or_eq_of_mem_set hx with hx | rfl
  · exact hb x hx
  · exact ⟨v0, v1⟩
theorem rd_set {l : List Int} {i j : Nat} {v : Int} (h : i < l.length) : rd (l.set i v) (j : Int) = if i = j then v else rd l (j : Int) := by
  unfold rd
  rw [Int.toNat_natCast, List.getD_eq_getElem?_getD, List.getD_eq_getElem?_getD]
  by_cases e : i = j
  · subst e
    rw [List.getElem?_set_self h, if_pos rfl]
    rfl
  · rw [List.getElem?_set_ne e, if_neg e]
/-- Where the word is: an even place, and its neighbour. -/
theorem place {a : Int} {n : Nat} (h0 : 0 ≤ a) (h1 : a < 65536) (hn : 2 ≤ n) (hm : n ≤ 3000) : ∃ i : Nat, wrap64 ((n : Int) / 2) ≠ 0 ∧ wrap64 (Int.tmod (wrap64 a) (wrap64 ((n : Int) / 2)) * 2) = (i : Int) ∧ wrap64 ((i : Int) + 1) = ((i + 1 : Nat) : Int) ∧ i % 2 = 0 ∧ i + 1 < n := by
  have e1 : wrap64 ((n : Int) / 2) = (n : Int) / 2 := w64 (by omega) (by omega)
  have e2 : wrap64 a = a := w64 (by omega) (by omega)
  have m0 : 0 ≤ a % ((n : Int) / 2) := Int.emod_nonneg _ (by omega)
  have m1 : a % ((n : Int) / 2) < (n : Int) / 2 := Int.emod_lt_of_pos _ (by omega)
  rw [e1, e2, Int.tmod_eq_emod_of_nonneg h0, w64 (by omega) (by omega)]
  refine ⟨(a % ((n : Int) / 2) * 2).toNat, by omega, by omega, ?_, by omega, by omega⟩
  rw [w64 (by omega) (by omega)]
  omega
end Go.Proofs.Ytjmdidbhocmhgaa.SumWordSmz
