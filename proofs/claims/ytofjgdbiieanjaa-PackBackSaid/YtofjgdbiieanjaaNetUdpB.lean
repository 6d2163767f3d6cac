import Derived.Test.YtofjgdbiieanjaaAllx42
import Derived.Test.YtofjgdbiieanjaaAllx49
import Derived.Test.YtofjgdbiieanjaaNetUdp
import Derived.Test.YtofjgdbiieanjaaNetTurn
namespace Go.Proofs.Ytofjgdbiieanjaa.NetUdp
open Go.RowKit Go.Proofs.Ytofjgdbiieanjaa.All Go.Proofs.Ytofjgdbiieanjaa.Ext Go.Proofs.Ytofjgdbiieanjaa.Bits Go.Proofs.YtofjgdbiieanjaaW.PrintWords Go.Proofs.YtofjgdbiieanjaaW.PrintLast Go.Proofs.Ytofjgdbiieanjaa.NetField Go.Proofs.Ytofjgdbiieanjaa.NetSum Go.Proofs.Ytofjgdbiieanjaa.NetRef
open Go.Proofs.Ytofjgdbiieanjaa.NetTcp (pseudoV pseudoV_range pseudo_eq cut_of)
open Go.Proofs.Ytofjgdbiieanjaa.NetTurn (two_bytes)
/-! What udp.Build and its reference come to. -/
/-- The bytes ahead of what a datagram bears, its checksum not yet told. -/
def headL (f t n : Int) : List Int := [f / 256, f % 256, t / 256, t % 256, n / 256, n % 256, 0, 0]
theorem headL_byte {f t n : Int} (f0 : 0 ≤ f) (f1 : f < 65536) (t0 : 0 ≤ t) (t1 : t < 65536) (n0 : 0 ≤ n) (n1 : n < 65536) : Byte (headL f t n) := by
  unfold headL
  iterate 8 refine byte_cons (by omega) ?_
  exact byte_nil
def sumV (s d f t : Int) (b : List Int) : Int := 65535 - F (pseudoV 17 s d ((8 + b.length : Nat) : Int) + WL 0 (headL f t ((8 + b.length : Nat) : Int) ++ b))
def checkV (s d f t : Int) (b : List Int) : Int := if sumV s d f t b = 0 then 65535 else sumV s d f t b
theorem sum_range (s d f t : Int) (b : List Int) : 0 ≤ sumV s d f t b ∧ sumV s d f t b ≤ 65535 := by
  have hf := F_range (pseudoV 17 s d ((8 + b.length : Nat) : Int) + WL 0 (headL f t ((8 + b.length : Nat) : Int) ++ b))
  unfold sumV
  omega
theorem check_range (s d f t : Int) (b : List Int) : 0 < checkV s d f t b ∧ checkV s d f t b ≤ 65535 := by
  have h := sum_range s d f t b
  unfold checkV
  split <;> omega
/-- A datagram. -/
def buildL (s d f t : Int) (b : List Int) : List Int := [f / 256, f % 256, t / 256, t % 256, ((8 + b.length : Nat) : Int) / 256, ((8 + b.length : Nat) : Int) % 256] ++ (bytesL (checkV s d f t b).toNat 2 ++ b)
def buildV (s d f t : Int) (b : List Int) : List Int × Int := if b.length > 1472 then ([], 2) else (buildL s d f t b, 0)
theorem or_eq (x y : Int) (k : Nat) : cmp_Or_uint16.f (k + 3) [x, y] = some (if x = 0 then y else x) := by
  have w1 : wrap64 (0 + 1) = 1 := by unfold wrap64; omega
  have w2 : wrap64 (1 + 1) = 2 := by unfold wrap64; omega
  unfold cmp_Or_uint16.f
  simp only [cmp_Or_uint16.l0]
  rw [show (([x, y] : List Int).length : Int) = 2 from rfl, show rd [x, y] 0 = x from rfl, if_pos (by omega), if_pos (by omega), if_pos (by omega), w1, show rd [x, y] 1 = y from rfl, if_pos (show (1 : Int) < 2 by omega), if_pos (show (0 : Int) ≤ 1 by omega), if_pos (show (1 : Int) < 2 by omega), w2, if_neg (show ¬ (2 : Int) < 2 by omega)]
  by_cases hx : x = 0
  · rw [if_pos hx, if_pos hx]
    by_cases hy : y = 0
    · rw [if_pos hy, hy]
    · rw [if_neg hy]
  · rw [if_neg hx, if_neg hx]
theorem cut8 {f t n : Int} (k : Nat) (f0 : 0 ≤ f) (f1 : f < 65536) (t0 : 0 ≤ t) (t1 : t < 65536) (n0 : 0 ≤ n) (n1 : n < 65536) :
    field_Cut.f (k + 11) (Go.bits .or .u64 (Go.bits .or .u64 (IntKind.u64.wrap ((IntKind.u64.wrap f) * 281474976710656)) (IntKind.u64.wrap ((IntKind.u64.wrap t) * 4294967296))) (IntKind.u64.wrap ((IntKind.u64.wrap n) * 65536))) 8 = some (headL f t n) := by
  obtain ⟨f, rfl⟩ := Int.eq_ofNat_of_zero_le f0
  obtain ⟨t, rfl⟩ := Int.eq_ofNat_of_zero_le t0
  obtain ⟨n, rfl⟩ := Int.eq_ofNat_of_zero_le n0
  have e1 : IntKind.u64.wrap ((IntKind.u64.wrap (f : Int)) * 281474976710656) = (f : Int) * 281474976710656 := by rw [wrap_u64, wrap_u64]; omega
  have e2 : IntKind.u64.wrap ((IntKind.u64.wrap (t : Int)) * 4294967296) = (t : Int) * 4294967296 := by rw [wrap_u64, wrap_u64]; omega
  have e3 : IntKind.u64.wrap ((IntKind.u64.wrap (n : Int)) * 65536) = (n : Int) * 65536 := by rw [wrap_u64, wrap_u64]; omega
  rw [e1, e2, e3, or_join 48 (x := (f : Int) * 281474976710656) (y := (t : Int) * 4294967296) (by omega) (by omega) (by omega) (by omega) (by omega) (by omega), or_join 32 (by omega) (by omega) (by omega) (by omega) (by omega) (by omega)]
  have h := cut_yes (f * 281474976710656 + t * 4294967296 + n * 65536) 8 k (by omega) (by omega)
  rw [show ((f * 281474976710656 + t * 4294967296 + n * 65536 : Nat) : Int) = (f : Int) * 281474976710656 + (t : Int) * 4294967296 + (n : Int) * 65536 by omega, show ((8 : Nat) : Int) = 8 from rfl] at h
  rw [h]
  simp only [bytesL, headL]
  congr 1
  simp only [Nat.reduceMul, Nat.reducePow]
  refine List.cons_eq_cons.2 ⟨by omega, List.cons_eq_cons.2 ⟨by omega, List.cons_eq_cons.2 ⟨by omega, List.cons_eq_cons.2 ⟨by omega, List.cons_eq_cons.2 ⟨by omega, List.cons_eq_cons.2 ⟨by omega, List.cons_eq_cons.2 ⟨by omega, List.cons_eq_cons.2 ⟨by omega, rfl⟩⟩⟩⟩⟩⟩⟩⟩
theorem build_eq {s d f t : Int} (b : List Int) (k : Nat) (s0 : 0 ≤ s) (s1 : s < 4294967296) (d0 : 0 ≤ d) (d1 : d < 4294967296) (f0 : 0 ≤ f) (f1 : f < 65536) (t0 : 0 ≤ t) (t1 : t < 65536) (hb : Byte b) (hl : b.length ≤ 10000) :
    udp_Build.f (k + 80 + b.length) s d f t b = some (buildV s d f t b) := by
  have ew : wrap64 (8 + (b.length : Int)) = ((8 + b.length : Nat) : Int) := by rw [w64 (by omega) (by omega)]; omega
  unfold udp_Build.f buildV
  rw [ew]
  by_cases h1 : b.length > 1472
  · rw [if_pos (by omega), if_pos h1]
  · have hh := headL_byte (n := ((8 + b.length : Nat) : Int)) f0 f1 t0 t1 (by omega) (by omega)
    have hlen : (headL f t ((8 + b.length : Nat) : Int)).length = 8 := rfl
    have hp := pseudoV_range 17 s d ((8 + b.length : Nat) : Int)
    have hr := sum_range s d f t b
    have hc := check_range s d f t b
    have c8 := cut8 (f := f) (t := t) (n := ((8 + b.length : Nat) : Int)) (k + 69 + b.length) f0 f1 t0 t1 (by omega) (by omega)
    have ht := concat_eq [headL f t ((8 + b.length : Nat) : Int), b] (k + 74 + b.length) (by simp) (by simp only [List.flatten_cons, List.flatten_nil, List.append_nil, List.length_append, hlen]; omega)
    simp only [List.length_cons, List.length_nil, List.flatten_cons, List.flatten_nil, List.append_nil] at ht
    have hps := pseudo_eq (p := 17) (n := ((8 + b.length : Nat) : Int)) (k + 40 + b.length) (by omega) (by omega) s0 s1 d0 d1
    have ha := add_eq (headL f t ((8 + b.length : Nat) : Int) ++ b) (s := pseudoV 17 s d ((8 + b.length : Nat) : Int)) (k + 67) (byte_app hh hb) (by rw [List.length_append]; omega) hp.1 hp.2
    have ho := or_eq (sumV s d f t b) 65535 (k + 77 + b.length)
    have c2 := cut_of (v := checkV s d f t b) 2 (k + 69 + b.length) (by omega) (by omega) (by omega)
    rw [show k + 69 + b.length + 11 = k + 80 + b.length by omega] at c8 c2
    rw [show k + 74 + b.length + 2 + (0 + 1 + 1) + (0 + 1 + 1) = k + 80 + b.length by omega] at ht
    rw [show k + 40 + b.length + 40 = k + 80 + b.length by omega] at hps
    rw [List.length_append, hlen, show k + 67 + 5 + (8 + b.length) = k + 80 + b.length by omega] at ha
    rw [show k + 77 + b.length + 3 = k + 80 + b.length by omega] at ho
    rw [show ((2 : Nat) : Int) = 2 from rfl] at c2
    have hcl : (bytesL (checkV s d f t b).toNat 2).length = 2 := bytesL_length _ _
    have hf := F_range (pseudoV 17 s d ((8 + b.length : Nat) : Int) + WL 0 (headL f t ((8 + b.length : Nat) : Int) ++ b))
    rw [if_neg (by omega), if_neg h1, c8, Option.bind_some, ht, Option.bind_some, hps, Option.bind_some, ha, Option.bind_some, if_pos (by rw [List.length_append]; omega), not_u16 hf.1 hf.2]
    show ((cmp_Or_uint16.f (k + 80 + b.length) [sumV s d f t b, 65535]).bind _) = _
    rw [ho, Option.bind_some]
    show ((field_Cut.f (k + 80 + b.length) (IntKind.u64.wrap (checkV s d f t b)) 2).bind _) = _
    rw [wraps_u64 _ (by omega) (by omega), c2, Option.bind_some, if_pos (by rw [List.length_append]; omega)]
    unfold slices_Clip.f
    rw [Option.bind_some]
    congr 2
end Go.Proofs.Ytofjgdbiieanjaa.NetUdp
