import Derived.Test.YtjmdidbhocmhgaaSumWordSum
namespace Go.Proofs.Ytjmdidbhocmhgaa.SumWordSum
open Go.RowKit Go.Proofs.Ytjmdidbhocmhgaa.Sum Go.Proofs.Ytjmdidbhocmhgaa.Bits Go.Proofs.YtjmdidbhocmhgaaW.PrintWords Go.Proofs.YtjmdidbhocmhgaaW.PrintLast
/-! What Edit and the references of the sums come to. -/
theorem awake : mantletlaw02_awake.f 100 = some true := by kernel_rfl
theorem awake_from (k : Nat) : mantletlaw02_awake.f (k + 100) = some true := by
  induction k with
  | zero => rw [Nat.zero_add]; exact awake
  | succ k ih => rw [show k + 1 + 100 = (k + 100) + 1 by omega]; exact mantletlaw02_awake.mono _ _ ih
/-- The bytes that count. -/
def shortL (l : List Int) : List Int := if l.length > 3000 then l.take 3000 else l
theorem short_eq (l : List Int) : mantletlaw02_short.f l = some (shortL l) := by
  unfold mantletlaw02_short.f shortL
  by_cases c : l.length > 3000
  · rw [if_pos (by omega), if_pos (by omega), if_pos c]
  · rw [if_neg (by omega), if_neg c]
theorem short_length (l : List Int) : (shortL l).length ≤ 3000 := by
  unfold shortL
  split
  · rw [List.length_take]; omega
  · omega
theorem short_mem {l : List Int} {x : Int} (h : x ∈ shortL l) : x ∈ l := by
  unfold shortL at h
  split at h
  · exact List.mem_of_mem_take h
  · exact h
theorem two_eq {a b : Int} (a0 : 0 ≤ a) (a1 : a ≤ 65535) (b0 : 0 ≤ b) (b1 : b ≤ 65535) : mantletref02_Two.f a b = some (F (a + b)) := by
  unfold mantletref02_Two.f
  rw [w64 (by omega) (by omega)]
  by_cases c : a + b > 65535
  · rw [if_pos c, w64 (by omega) (by omega)]
    congr 1
    unfold F
    rw [if_neg (by omega)]
    omega
  · rw [if_neg c, F_small (by omega) (by omega)]
theorem ref_loop (l : List Int) (hb : ∀ x ∈ l, 0 ≤ x ∧ x < 256) (hl : l.length < 9223372036854775800) (d : Nat) : ∀ (k i : Nat) (s : Int), i % 2 = 0 → l.length ≤ i + 2 * d → 0 ≤ s → s ≤ 65535 → i ≤ l.length + 1 →
    mantletref02_Add.l0 (k + 1 + d) s l (i : Int) = some (F (s + WL 0 (l.drop i))) := by
  induction d with
  | zero =>
    intro k i s _ h s0 s1 _
    simp only [mantletref02_Add.l0]
    rw [if_neg (by omega), List.drop_of_length_le (by omega), WL, Int.add_zero, F_small s0 s1]
  | succ d ih =>
    intro k i s he h s0 s1 hi
    rw [show k + 1 + (d + 1) = (k + 1 + d) + 1 by omega]
    simp only [mantletref02_Add.l0]
    by_cases c : i < l.length
    · obtain ⟨r0, r1⟩ := rd_range hb c
      have e1 : wrap64 (rd l (i : Int)) = rd l (i : Int) := w64 (by omega) (by omega)
      have e2 : wrap64 ((i : Int) + 1) = ((i + 1 : Nat) : Int) := by rw [w64 (by omega) (by omega)]; omega
      have e4 : wrap64 ((i : Int) + 2) = ((i + 2 : Nat) : Int) := by rw [w64 (by omega) (by omega)]; omega
      have e3 : wrap64 (256 * rd l (i : Int)) = 256 * rd l (i : Int) := w64 (by omega) (by omega)
      have hw := WL_nonneg (l.drop (i + 2)) 0 (drop_range hb (i + 2))
      rw [if_pos (by omega), if_pos (by omega), e1, e2, e3, e4]
      by_cases c2 : i + 1 < l.length
      · obtain ⟨q0, q1⟩ := rd_range hb c2
        have e5 : wrap64 (rd l ((i + 1 : Nat) : Int)) = rd l ((i + 1 : Nat) : Int) := w64 (by omega) (by omega)
        have hf := F_range (s + (256 * rd l (i : Int) + rd l ((i + 1 : Nat) : Int)))
        rw [if_pos (by omega), if_pos (by omega), e5, w64 (by omega) (by omega), two_eq s0 s1 (by omega) (by omega), Option.bind_some, ih k (i + 2) _ (by omega) (by omega) hf.1 hf.2 (by omega), F_add (by omega) hw, rd_cons c, WL, rd_cons c2, WL, if_pos (by omega), if_neg (by omega), WL_even _ (0 + 1 + 1) 0 (by omega), show i + 1 + 1 = i + 2 from rfl]
        congr 2
        omega
      · have hf := F_range (s + 256 * rd l (i : Int))
        rw [if_neg (by omega), two_eq s0 s1 (by omega) (by omega), Option.bind_some, ih k (i + 2) _ (by omega) (by omega) hf.1 hf.2 (by omega), F_add (by omega) hw, rd_cons c, WL, List.drop_of_length_le (show l.length ≤ i + 1 by omega), List.drop_of_length_le (show l.length ≤ i + 2 by omega), WL, WL, if_pos (by omega)]
        congr 2
        omega
    · rw [if_neg (by omega), List.drop_of_length_le (by omega), WL, Int.add_zero, F_small s0 s1]
theorem ref_eq (l : List Int) {s : Int} (k : Nat) (hb : ∀ x ∈ l, 0 ≤ x ∧ x < 256) (hl : l.length < 9223372036854775800) (s0 : 0 ≤ s) (s1 : s ≤ 65535) :
    mantletref02_Add.f (k + 1 + l.length) s l = some (F (s + WL 0 l)) := by
  unfold mantletref02_Add.f
  exact ref_loop l hb hl l.length k 0 s (by omega) (by omega) s0 s1 (by omega)
theorem edit_eq {c w i : Int} (k : Nat) (c0 : 0 ≤ c) (c1 : c ≤ 65535) (w0 : 0 ≤ w) (w1 : w ≤ 65535) (i0 : 0 ≤ i) (i1 : i ≤ 65535) :
    sum_Edit.f (k + 4) c w i = some (65535 - F (65535 - c + (65535 - w) + i)) := by
  unfold sum_Edit.f
  have hf := F_range (65535 - c + (65535 - w))
  have hg := F_range (65535 - c + (65535 - w) + i)
  rw [not_u16 c0 c1, not_u16 w0 w1, show ((65535 - c) % 4294967296 + (65535 - w) % 4294967296) % 4294967296 = 65535 - c + (65535 - w) by omega, fold_eq k (by omega) (by omega), Option.bind_some]
  rw [show (F (65535 - c + (65535 - w)) % 4294967296 + i % 4294967296) % 4294967296 = F (65535 - c + (65535 - w)) + i by omega, fold_eq k (by omega) (by omega), Option.bind_some, F_add (by omega) i0, not_u16 hg.1 hg.2]
end Go.Proofs.Ytjmdidbhocmhgaa.SumWordSum
