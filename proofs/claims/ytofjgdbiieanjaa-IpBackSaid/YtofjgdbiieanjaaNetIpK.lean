import Derived.Test.YtofjgdbiieanjaaNetIpB
import Derived.Test.YtofjgdbiieanjaaNetTurn
namespace Go.Proofs.Ytofjgdbiieanjaa.NetIp
open Go.RowKit Go.Proofs.Ytofjgdbiieanjaa.All Go.Proofs.Ytofjgdbiieanjaa.Ext Go.Proofs.Ytofjgdbiieanjaa.Bits Go.Proofs.YtofjgdbiieanjaaW.PrintWords Go.Proofs.YtofjgdbiieanjaaW.PrintLast Go.Proofs.Ytofjgdbiieanjaa.NetField Go.Proofs.Ytofjgdbiieanjaa.NetSum Go.Proofs.Ytofjgdbiieanjaa.NetRef Go.Proofs.Ytofjgdbiieanjaa.NetTurn
/-! What is built is whole, and says what it was built of. -/
theorem four_bytes {n : Int} (h0 : 0 ≤ n) (h1 : n < 4294967296) : bytesL n.toNat 4 = [n / 16777216, n / 65536 % 256, n / 256 % 256, n % 256] := by
  simp only [bytesL, Nat.reduceMul, Nat.reducePow]
  refine List.cons_eq_cons.2 ⟨by omega, List.cons_eq_cons.2 ⟨by omega, List.cons_eq_cons.2 ⟨by omega, List.cons_eq_cons.2 ⟨by omega, rfl⟩⟩⟩⟩
/-- The header, its checksum c. -/
def topL (p s d t i n c : Int) : List Int := [69, 0, (20 + n) / 256, (20 + n) % 256, i / 256, i % 256, 0, 0, t, p, c / 256, c % 256, s / 16777216, s / 65536 % 256, s / 256 % 256, s % 256, d / 16777216, d / 65536 % 256, d / 256 % 256, d % 256]
section
variable {p s d t i : Int} {b : List Int}
theorem size_bytes (hl : b.length ≤ 1480) : bytesL (20 + b.length) 2 = [(20 + (b.length : Int)) / 256, (20 + (b.length : Int)) % 256] := by
  have h := two_bytes (n := 20 + (b.length : Int)) (by omega) (by omega)
  rwa [show (20 + (b.length : Int)).toNat = 20 + b.length by omega] at h
theorem ip_list (s0 : 0 ≤ s) (s1 : s < 4294967296) (d0 : 0 ≤ d) (d1 : d < 4294967296) (i0 : 0 ≤ i) (i1 : i < 65536) (hl : b.length ≤ 1480) :
    buildL p s d t i b = topL p s d t i b.length (checkV p s d t i b.length) ++ b := by
  have hc := check_range p s d t i b.length
  unfold buildL frontL tailL
  rw [size_bytes hl, two_bytes i0 (by omega), two_bytes hc.1 hc.2, four_bytes s0 s1, four_bytes d0 d1]
  rfl
theorem ihead_list (s0 : 0 ≤ s) (s1 : s < 4294967296) (d0 : 0 ≤ d) (d1 : d < 4294967296) (i0 : 0 ≤ i) (i1 : i < 65536) (hl : b.length ≤ 1480) :
    headL p s d t i b.length = topL p s d t i b.length 0 := by
  unfold headL frontL tailL
  rw [size_bytes hl, two_bytes i0 (by omega), four_bytes s0 s1, four_bytes d0 d1]
  rfl
theorem ip_length (p s d t i : Int) (b : List Int) : (buildL p s d t i b).length = 20 + b.length := by
  unfold buildL
  rw [List.length_append, front_length, List.length_append, bytesL_length, List.length_append, tail_length]
  omega
theorem top_byte {n c : Int} (p0 : 0 ≤ p) (p1 : p < 256) (s0 : 0 ≤ s) (s1 : s < 4294967296) (d0 : 0 ≤ d) (d1 : d < 4294967296) (t0 : 0 ≤ t) (t1 : t < 256) (i0 : 0 ≤ i) (i1 : i < 65536) (n0 : 0 ≤ n) (n1 : n ≤ 1480) (c0 : 0 ≤ c) (c1 : c ≤ 65535) : Byte (topL p s d t i n c) := by
  unfold topL
  iterate 20 refine byte_cons (by omega) ?_
  exact byte_nil
theorem ip_byte (p0 : 0 ≤ p) (p1 : p < 256) (s0 : 0 ≤ s) (s1 : s < 4294967296) (d0 : 0 ≤ d) (d1 : d < 4294967296) (t0 : 0 ≤ t) (t1 : t < 256) (i0 : 0 ≤ i) (i1 : i < 65536) (hl : b.length ≤ 1480) (hb : Byte b) : Byte (buildL p s d t i b) := by
  have hc := check_range p s d t i b.length
  rw [ip_list s0 s1 d0 d1 i0 i1 hl]
  exact byte_app (top_byte p0 p1 s0 s1 d0 d1 t0 t1 i0 i1 (by omega) (by omega) hc.1 hc.2) hb
theorem top_sum (p0 : 0 ≤ p) (p1 : p < 256) (s0 : 0 ≤ s) (s1 : s < 4294967296) (d0 : 0 ≤ d) (d1 : d < 4294967296) (t0 : 0 ≤ t) (t1 : t < 256) (i0 : 0 ≤ i) (i1 : i < 65536) (hl : b.length ≤ 1480) :
    F (WL 0 (topL p s d t i b.length (checkV p s d t i b.length))) = 65535 := by
  have h0 := top_byte (n := b.length) (c := 0) p0 p1 s0 s1 d0 d1 t0 t1 i0 i1 (by omega) (by omega) (by omega) (by omega)
  have hw := WL_nonneg (topL p s d t i b.length 0) 0 h0
  have e : ∀ c : Int, 0 ≤ c → WL 0 (topL p s d t i b.length c) = WL 0 (topL p s d t i b.length 0) + c := by
    intro c _
    unfold topL
    simp only [WL]
    simp only [Nat.reduceAdd, Nat.reduceMod, if_true, if_false, Nat.one_ne_zero]
    omega
  rw [e _ (check_range p s d t i b.length).1]
  unfold checkV
  rw [ihead_list s0 s1 d0 d1 i0 i1 hl]
  exact whole hw
theorem rd_top {n c : Int} {m : List Int} : rd (topL p s d t i n c ++ m) 0 = 69 ∧ rd (topL p s d t i n c ++ m) 8 = t ∧ rd (topL p s d t i n c ++ m) 9 = p ∧ two (topL p s d t i n c ++ m) 2 = 20 + n ∧ two (topL p s d t i n c ++ m) 4 = i ∧ two (topL p s d t i n c ++ m) 6 = 0 := by
  refine ⟨rfl, rfl, rfl, ?_, ?_, rfl⟩
  · show 256 * ((20 + n) / 256) + (20 + n) % 256 = 20 + n; omega
  · show 256 * (i / 256) + i % 256 = i; omega
theorem four_top {n c : Int} {m : List Int} : four (topL p s d t i n c ++ m) 12 = s ∧ four (topL p s d t i n c ++ m) 16 = d := by
  refine ⟨?_, ?_⟩
  · show 65536 * (256 * (s / 16777216) + s / 65536 % 256) + (256 * (s / 256 % 256) + s % 256) = s; omega
  · show 65536 * (256 * (d / 16777216) + d / 65536 % 256) + (256 * (d / 256 % 256) + d % 256) = d; omega
theorem top_length (n c : Int) : (topL p s d t i n c).length = 20 := rfl
/-- What is built is parsed as it was, whatever is behind it. -/
theorem ip_parsed (m : List Int) (p0 : 0 ≤ p) (p1 : p < 256) (s0 : 0 ≤ s) (s1 : s < 4294967296) (d0 : 0 ≤ d) (d1 : d < 4294967296) (t0 : 0 ≤ t) (t1 : t < 256) (i0 : 0 ≤ i) (i1 : i < 65536) (hl : b.length ≤ 1480) (hm : b.length + m.length ≤ 1480) :
    parseV (buildL p s d t i b ++ m) = (p, s, d, 20, 20 + (b.length : Int), t, i, b, 0) := by
  have hs := top_sum (p := p) (t := t) p0 p1 s0 s1 d0 d1 t0 t1 i0 i1 hl
  rw [ip_list s0 s1 d0 d1 i0 i1 hl, List.append_assoc]
  generalize checkV p s d t i b.length = c at *
  obtain ⟨r0, r8, r9, t2, t4, t6⟩ := @rd_top p s d t i (b.length : Int) c (b ++ m)
  obtain ⟨f12, f16⟩ := @four_top p s d t i (b.length : Int) c (b ++ m)
  have hT := @top_length p s d t i (b.length : Int) c
  have hlen : (topL p s d t i b.length c ++ (b ++ m)).length = 20 + (b.length + m.length) := by rw [List.length_append, List.length_append, hT]
  have e1 : (topL p s d t i b.length c ++ (b ++ m)).take (4 * ((69 : Int) % 16)).toNat = topL p s d t i b.length c := by
    rw [show (4 * ((69 : Int) % 16)).toNat = (topL p s d t i b.length c).length from rfl, List.take_left]
  have e2 : ((topL p s d t i b.length c ++ (b ++ m)).take (20 + (b.length : Int)).toNat).drop (4 * ((69 : Int) % 16)).toNat = b := by
    rw [show (20 + (b.length : Int)).toNat = (topL p s d t i b.length c ++ b).length by rw [List.length_append, hT]; omega, ← List.append_assoc, List.take_left,
      show (4 * ((69 : Int) % 16)).toNat = (topL p s d t i b.length c).length from rfl, List.drop_left]
  unfold parseV
  rw [r0, r8, r9, t2, t4, t6, f12, f16, e1, e2, hs, if_neg (by omega), if_neg (by omega), if_neg (by omega), if_neg (by omega), if_neg (by omega), if_neg (by decide), if_neg (by decide)]
  rfl
/-- One bit of the header turned, but of how long that is: something is wrong. -/
theorem ip_turned {j m : Nat} (p0 : 0 ≤ p) (p1 : p < 256) (s0 : 0 ≤ s) (s1 : s < 4294967296) (d0 : 0 ≤ d) (d1 : d < 4294967296) (t0 : 0 ≤ t) (t1 : t < 256) (i0 : 0 ≤ i) (i1 : i < 65536) (hl : b.length ≤ 1480) (hj : j < 20) (hm : m < 8) (h4 : 0 < j ∨ 4 ≤ m) :
    (parseV (turnL (buildL p s d t i b) j m)).2.2.2.2.2.2.2.2 ≠ 0 := by
  have hs := top_sum (p := p) (t := t) p0 p1 s0 s1 d0 d1 t0 t1 i0 i1 hl
  have hc := check_range p s d t i b.length
  have hno : ∀ e : Int, (no e).2.2.2.2.2.2.2.2 = e := fun _ => rfl
  have hB := top_byte (n := b.length) p0 p1 s0 s1 d0 d1 t0 t1 i0 i1 (by omega) (by omega) hc.1 hc.2
  rw [ip_list s0 s1 d0 d1 i0 i1 hl]
  generalize checkV p s d t i b.length = c at *
  have hT := @top_length p s d t i (b.length : Int) c
  have hlen : (topL p s d t i b.length c ++ b).length = 20 + b.length := by rw [List.length_append, hT]
  have ht : turnL (topL p s d t i b.length c ++ b) j m = turnL (topL p s d t i b.length c) j m ++ b := by
    unfold turnL
    have : rd (topL p s d t i b.length c ++ b) (j : Int) = rd (topL p s d t i b.length c) (j : Int) := by
      unfold rd
      rw [Int.toNat_natCast, List.getD_eq_getElem?_getD, List.getD_eq_getElem?_getD, List.getElem?_append_left (by rw [hT]; exact hj)]
    rw [this, List.set_append_left _ _ (by rw [hT]; exact hj)]
  have hq := turnL_sum (s := 0) hB (by rw [Int.zero_add]; exact hs) (j := j) (m := m) (by rw [hT]; exact hj) hm
  rw [Int.zero_add] at hq
  have hql : (turnL (topL p s d t i b.length c) j m).length = 20 := by rw [turnL_length, hT]
  unfold parseV
  rw [turnL_length, hlen, if_neg (by omega), if_neg (by omega)]
  by_cases h0 : j = 0
  · subst h0
    have e : rd (turnL (topL p s d t i b.length c ++ b) 0 m) 0 = bits .xor .u8 69 (shl .u8 1 (m : Int)) := by
      have h := rd_set (l := topL p s d t i b.length c ++ b) (i := 0) (j := 0) (v := bits .xor .u8 (rd (topL p s d t i b.length c ++ b) ((0 : Nat) : Int)) (shl .u8 1 (m : Int))) (by rw [hlen]; omega)
      rw [if_pos rfl] at h
      exact h
    have hv : bits .xor .u8 69 (shl .u8 1 (m : Int)) / 16 ≠ 4 := by
      have h4 : m = 4 ∨ m = 5 ∨ m = 6 ∨ m = 7 := by omega
      rw [turned (by omega) (by omega) hm]
      rcases h4 with rfl | rfl | rfl | rfl <;> decide
    rw [e, if_pos hv, hno]
    omega
  · have e : rd (turnL (topL p s d t i b.length c ++ b) j m) 0 = 69 := by
      have h := turnL_rd (l := topL p s d t i b.length c ++ b) (i := 0) (j := j) (m := m) (by rw [hlen]; omega) h0
      exact h
    have e1 : (turnL (topL p s d t i b.length c ++ b) j m).take (4 * ((69 : Int) % 16)).toNat = turnL (topL p s d t i b.length c) j m := by
      rw [ht, show (4 * ((69 : Int) % 16)).toNat = (turnL (topL p s d t i b.length c) j m).length by rw [hql]; rfl, List.take_left]
    rw [e, e1, if_neg (by omega), if_neg (by omega)]
    split <;> (rw [hno]; omega)
end
end Go.Proofs.Ytofjgdbiieanjaa.NetIp
