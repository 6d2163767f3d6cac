import Derived.Test.YtofjgdbiieanjaaAllx38
import Derived.Test.YtofjgdbiieanjaaNetPs
import Derived.Test.YtofjgdbiieanjaaAllx42
import Derived.Test.YtofjgdbiieanjaaAllx49
import Derived.Test.YtofjgdbiieanjaaNetTurn
namespace Go.Proofs.Ytofjgdbiieanjaa.NetUdp
open Go.RowKit Go.Proofs.Ytofjgdbiieanjaa.All Go.Proofs.Ytofjgdbiieanjaa.Ext Go.Proofs.Ytofjgdbiieanjaa.Bits Go.Proofs.YtofjgdbiieanjaaW.PrintWords Go.Proofs.YtofjgdbiieanjaaW.PrintLast Go.Proofs.Ytofjgdbiieanjaa.NetField Go.Proofs.Ytofjgdbiieanjaa.NetSum Go.Proofs.Ytofjgdbiieanjaa.NetRef
open Go.Proofs.Ytofjgdbiieanjaa.NetTcp (pseudoV pseudoV_range pseudo_eq)
/-! What udp and its reference come to. -/
theorem word_eq {l : List Int} (hb : Byte l) {i : Nat} (k : Nat) (h : i + 1 < l.length) (hl : l.length ≤ 10000) : udp_word.f (k + 11) l (i : Int) = some (two l i) := by
  have t := two_range hb h
  unfold udp_word.f
  rw [num2 hb k h (by omega), Option.bind_some]
  dsimp only
  rw [wrap_u16, Int.emod_eq_of_lt (by omega) (by omega)]
/-- What a datagram says, or what is wrong. -/
def parseV (s d : Int) (l : List Int) : Int × Int × Int :=
  if l.length < 8 then (0, 0, 4) else if two l 4 < 8 then (0, 0, 6) else if two l 4 > l.length then (0, 0, 4)
  else if two l 6 ≠ 0 ∧ F (pseudoV 17 s d (two l 4) + WL 0 (l.take (two l 4).toNat)) ≠ 65535 then (0, 0, 7) else (two l 0, two l 2, 0)
theorem parse_eq {s d : Int} (l : List Int) (k : Nat) (s0 : 0 ≤ s) (s1 : s < 4294967296) (d0 : 0 ≤ d) (d1 : d < 4294967296) (hb : Byte l) (hl : l.length ≤ 10000) :
    udp_Parse.f (k + 50 + l.length) s d l = some (parseV s d l) := by
  unfold udp_Parse.f parseV
  by_cases h8 : l.length < 8
  · rw [if_pos (by omega), if_pos h8]
  · have t4 := two_range hb (i := 4) (by omega)
    have w0 := word_eq hb (i := 0) (k + 38 + l.length) (by omega) hl
    have w2 := word_eq hb (i := 2) (k + 38 + l.length) (by omega) hl
    have w4 := word_eq hb (i := 4) (k + 39 + l.length) (by omega) hl
    have w6 := word_eq hb (i := 6) (k + 39 + l.length) (by omega) hl
    rw [show k + 38 + l.length + 11 = k + 49 + l.length by omega] at w0 w2
    rw [show k + 39 + l.length + 11 = k + 50 + l.length by omega] at w4 w6
    rw [show ((0 : Nat) : Int) = 0 from rfl] at w0
    rw [show ((2 : Nat) : Int) = 2 from rfl] at w2
    rw [show ((4 : Nat) : Int) = 4 from rfl] at w4
    rw [show ((6 : Nat) : Int) = 6 from rfl] at w6
    rw [if_neg (by omega), if_neg h8, w4, Option.bind_some, w64 (n := two l 4) (by omega) (by omega)]
    by_cases h6 : two l 4 < 8
    · rw [if_pos h6, if_pos h6]
    · rw [if_neg h6, if_neg h6]
      by_cases h4 : two l 4 > l.length
      · rw [if_pos h4, if_pos h4]
      · have hj : ∀ x, udp_Parse.j0 (k + 50 + l.length) l x = some (if x = true then (0, 0, 7) else (two l 0, two l 2, 0)) := by
          intro x
          rw [show k + 50 + l.length = (k + 49 + l.length) + 1 by omega]
          simp only [udp_Parse.j0]
          cases x with
          | true => rw [if_pos rfl, if_pos rfl]
          | false => rw [if_neg (by decide), if_neg (by decide), w0, Option.bind_some, w2, Option.bind_some]
        rw [if_neg h4, if_neg h4, w6, Option.bind_some]
        by_cases hz : two l 6 = 0
        · rw [if_pos hz, hj, if_neg (by decide), if_neg (fun h => h.1 hz)]
        · have hp := pseudoV_range 17 s d (two l 4)
          have hps := pseudo_eq (p := 17) (n := two l 4) (k + 10 + l.length) (by omega) (by omega) s0 s1 d0 d1
          have hlt : (l.take (two l 4).toNat).length = (two l 4).toNat := by rw [List.length_take]; omega
          have hs := add_eq (l.take (two l 4).toNat) (s := pseudoV 17 s d (two l 4)) (k + 45 + l.length - (two l 4).toNat) (byte_take hb _) (by omega) hp.1 hp.2
          rw [show k + 10 + l.length + 40 = k + 50 + l.length by omega] at hps
          rw [hlt, show k + 45 + l.length - (two l 4).toNat + 5 + (two l 4).toNat = k + 50 + l.length by omega] at hs
          rw [if_neg hz, hps, Option.bind_some, if_pos (by omega), if_pos (by omega), hs, Option.bind_some, hj]
          by_cases h7 : F (pseudoV 17 s d (two l 4) + WL 0 (l.take (two l 4).toNat)) = 65535
          · rw [h7, if_neg (by decide), if_neg (fun h => h.2 rfl)]
          · rw [bne_iff_ne.2 h7, if_pos rfl, if_pos ⟨hz, h7⟩]
end Go.Proofs.Ytofjgdbiieanjaa.NetUdp
namespace Go.Proofs.Ytofjgdbiieanjaa.NetUdp
open Go.RowKit Go.Proofs.Ytofjgdbiieanjaa.All Go.Proofs.Ytofjgdbiieanjaa.Ext Go.Proofs.Ytofjgdbiieanjaa.Bits Go.Proofs.YtofjgdbiieanjaaW.PrintWords Go.Proofs.YtofjgdbiieanjaaW.PrintLast Go.Proofs.Ytofjgdbiieanjaa.NetField Go.Proofs.Ytofjgdbiieanjaa.NetSum Go.Proofs.Ytofjgdbiieanjaa.NetRef
open Go.Proofs.Ytofjgdbiieanjaa.NetTcp (pseudoV pseudoV_range pseudo_eq cut_of)
open Go.Proofs.Ytofjgdbiieanjaa.NetTurn (two_bytes)
/-! What udp.Build and its reference come to. -/
/-- The bytes ahead of what a datagram bears, its checksum not yet told. -/
def headL (f t n : Int) : List Int := [f / 256, f % 256, t / 256, t % 256, n / 256, n % 256, 0, 0]
theorem headL_byte {f t n : Int} (f0 : 0 ≤ f) (f1 : f < 65536) (t0 : 0 ≤ t) (t1 : t < 65536) (n0 : 0 ≤ n) (n1 : n < 65536) : Byte (headL f t n) := by
  unfold headL
  iterate 8 refine byte_cons (by omega) ?_
  exact byte_nil
def sumV (s d f t : Int) (b : List Int) : Int := 65535 - F (pseudoV 17 s d ((8 + b.length : Nat) : Int) + WL 0 (headL f t ((8 + b.length : Nat) : Int) ++ b))
def checkV (s d f t : Int) (b : List Int) : Int := if sumV s d f t b = 0 then 65535 else sumV s d f t b
theorem sum_range (s d f t : Int) (b : List Int) : 0 ≤ sumV s d f t b ∧ sumV s d f t b ≤ 65535 := by
  have hf := F_range (pseudoV 17 s d ((8 + b.length : Nat) : Int) + WL 0 (headL f t ((8 + b.length : Nat) : Int) ++ b))
  unfold sumV
  omega
theorem check_range (s d f t : Int) (b : List Int) : 0 < checkV s d f t b ∧ checkV s d f t b ≤ 65535 := by
  have h := sum_range s d f t b
  unfold checkV
  split <;> omega
/-- A datagram. -/
def buildL (s d f t : Int) (b : List Int) : List Int := [f / 256, f % 256, t / 256, t % 256, ((8 + b.length : Nat) : Int) / 256, ((8 + b.length : Nat) : Int) % 256] ++ (bytesL (checkV s d f t b).toNat 2 ++ b)
def buildV (s d f t : Int) (b : List Int) : List Int × Int := if b.length > 1472 then ([], 2) else (buildL s d f t b, 0)
theorem or_eq (x y : Int) (k : Nat) : cmp_Or_uint16.f (k + 3) [x, y] = some (if x = 0 then y else x) := by
  have w1 : wrap64 (0 + 1) = 1 := by unfold wrap64; omega
  have w2 : wrap64 (1 + 1) = 2 := by unfold wrap64; omega
  unfold cmp_Or_uint16.f
  simp only [cmp_Or_uint16.l0]
  rw [show (([x, y] : List Int).length : Int) = 2 from rfl, show rd [x, y] 0 = x from rfl, if_pos (by omega), if_pos (by omega), if_pos (by omega), w1, show rd [x, y] 1 = y from rfl, if_pos (show (1 : Int) < 2 by omega), if_pos (show (0 : Int) ≤ 1 by omega), if_pos (show (1 : Int) < 2 by omega), w2, if_neg (show ¬ (2 : Int) < 2 by omega)]
  by_cases hx : x = 0
  · rw [if_pos hx, if_pos hx]
    by_cases hy : y = 0
    · rw [if_pos hy, hy]
    · rw [if_neg hy]
  · rw [if_neg hx, if_neg hx]
theorem cut8 {f t n : Int} (k : Nat) (f0 : 0 ≤ f) (f1 : f < 65536) (t0 : 0 ≤ t) (t1 : t < 65536) (n0 : 0 ≤ n) (n1 : n < 65536) :
    field_Cut.f (k + 11) (Go.bits .or .u64 (Go.bits .or .u64 (IntKind.u64.wrap ((IntKind.u64.wrap f) * 281474976710656)) (IntKind.u64.wrap ((IntKind.u64.wrap t) * 4294967296))) (IntKind.u64.wrap ((IntKind.u64.wrap n) * 65536))) 8 = some (headL f t n) := by
  obtain ⟨f, rfl⟩ := Int.eq_ofNat_of_zero_le f0
  obtain ⟨t, rfl⟩ := Int.eq_ofNat_of_zero_le t0
  obtain ⟨n, rfl⟩ := Int.eq_ofNat_of_zero_le n0
  have e1 : IntKind.u64.wrap ((IntKind.u64.wrap (f : Int)) * 281474976710656) = (f : Int) * 281474976710656 := by rw [wrap_u64, wrap_u64]; omega
  have e2 : IntKind.u64.wrap ((IntKind.u64.wrap (t : Int)) * 4294967296) = (t : Int) * 4294967296 := by rw [wrap_u64, wrap_u64]; omega
  have e3 : IntKind.u64.wrap ((IntKind.u64.wrap (n : Int)) * 65536) = (n : Int) * 65536 := by rw [wrap_u64, wrap_u64]; omega
  rw [e1, e2, e3, or_join 48 (x := (f : Int) * 281474976710656) (y := (t : Int) * 4294967296) (by omega) (by omega) (by omega) (by omega) (by omega) (by omega), or_join 32 (by omega) (by omega) (by omega) (by omega) (by omega) (by omega)]
  have h := cut_yes (f * 281474976710656 + t * 4294967296 + n * 65536) 8 k (by omega) (by omega)
  rw [show ((f * 281474976710656 + t * 4294967296 + n * 65536 : Nat) : Int) = (f : Int) * 281474976710656 + (t : Int) * 4294967296 + (n : Int) * 65536 by omega, show ((8 : Nat) : Int) = 8 from rfl] at h
  rw [h]
  simp only [bytesL, headL]
  congr 1
  simp only [Nat.reduceMul, Nat.reducePow]
  refine List.cons_eq_cons.2 ⟨by omega, List.cons_eq_cons.2 ⟨by omega, List.cons_eq_cons.2 ⟨by omega, List.cons_eq_cons.2 ⟨by omega, List.cons_eq_cons.2 ⟨by omega, List.cons_eq_cons.2 ⟨by omega, List.cons_eq_cons.2 ⟨by omega, List.cons_eq_cons.2 ⟨by omega, rfl⟩⟩⟩⟩⟩⟩⟩⟩
theorem build_eq {s d f t : Int} (b : List Int) (k : Nat) (s0 : 0 ≤ s) (s1 : s < 4294967296) (d0 : 0 ≤ d) (d1 : d < 4294967296) (f0 : 0 ≤ f) (f1 : f < 65536) (t0 : 0 ≤ t) (t1 : t < 65536) (hb : Byte b) (hl : b.length ≤ 10000) :
    udp_Build.f (k + 80 + b.length) s d f t b = some (buildV s d f t b) := by
  have ew : wrap64 (8 + (b.length : Int)) = ((8 + b.length : Nat) : Int) := by rw [w64 (by omega) (by omega)]; omega
  unfold udp_Build.f buildV
  rw [ew]
  by_cases h1 : b.length > 1472
  · rw [if_pos (by omega), if_pos h1]
  · have hh := headL_byte (n := ((8 + b.length : Nat) : Int)) f0 f1 t0 t1 (by omega) (by omega)
    have hlen : (headL f t ((8 + b.length : Nat) : Int)).length = 8 := rfl
    have hp := pseudoV_range 17 s d ((8 + b.length : Nat) : Int)
    have hr := sum_range s d f t b
    have hc := check_range s d f t b
    have c8 := cut8 (f := f) (t := t) (n := ((8 + b.length : Nat) : Int)) (k + 69 + b.length) f0 f1 t0 t1 (by omega) (by omega)
    have ht := concat_eq [headL f t ((8 + b.length : Nat) : Int), b] (k + 74 + b.length) (by simp) (by simp only [List.flatten_cons, List.flatten_nil, List.append_nil, List.length_append, hlen]; omega)
    simp only [List.length_cons, List.length_nil, List.flatten_cons, List.flatten_nil, List.append_nil] at ht
    have hps := pseudo_eq (p := 17) (n := ((8 + b.length : Nat) : Int)) (k + 40 + b.length) (by omega) (by omega) s0 s1 d0 d1
    have ha := add_eq (headL f t ((8 + b.length : Nat) : Int) ++ b) (s := pseudoV 17 s d ((8 + b.length : Nat) : Int)) (k + 67) (byte_app hh hb) (by rw [List.length_append]; omega) hp.1 hp.2
    have ho := or_eq (sumV s d f t b) 65535 (k + 77 + b.length)
    have c2 := cut_of (v := checkV s d f t b) 2 (k + 69 + b.length) (by omega) (by omega) (by omega)
    rw [show k + 69 + b.length + 11 = k + 80 + b.length by omega] at c8 c2
    rw [show k + 74 + b.length + 2 + (0 + 1 + 1) + (0 + 1 + 1) = k + 80 + b.length by omega] at ht
    rw [show k + 40 + b.length + 40 = k + 80 + b.length by omega] at hps
    rw [List.length_append, hlen, show k + 67 + 5 + (8 + b.length) = k + 80 + b.length by omega] at ha
    rw [show k + 77 + b.length + 3 = k + 80 + b.length by omega] at ho
    rw [show ((2 : Nat) : Int) = 2 from rfl] at c2
    have hcl : (bytesL (checkV s d f t b).toNat 2).length = 2 := bytesL_length _ _
    have hf := F_range (pseudoV 17 s d ((8 + b.length : Nat) : Int) + WL 0 (headL f t ((8 + b.length : Nat) : Int) ++ b))
    rw [if_neg (by omega), if_neg h1, c8, Option.bind_some, ht, Option.bind_some, hps, Option.bind_some, ha, Option.bind_some, if_pos (by rw [List.length_append]; omega), not_u16 hf.1 hf.2]
    show ((cmp_Or_uint16.f (k + 80 + b.length) [sumV s d f t b, 65535]).bind _) = _
    rw [ho, Option.bind_some]
    show ((field_Cut.f (k + 80 + b.length) (IntKind.u64.wrap (checkV s d f t b)) 2).bind _) = _
    rw [wraps_u64 _ (by omega) (by omega), c2, Option.bind_some, if_pos (by rw [List.length_append]; omega)]
    unfold slices_Clip.f
    rw [Option.bind_some]
    congr 2
end Go.Proofs.Ytofjgdbiieanjaa.NetUdp
namespace Go.Proofs.Ytofjgdbiieanjaa.NetUdp
open Go.RowKit Go.Proofs.Ytofjgdbiieanjaa.All Go.Proofs.Ytofjgdbiieanjaa.Ext Go.Proofs.Ytofjgdbiieanjaa.Bits Go.Proofs.YtofjgdbiieanjaaW.PrintWords Go.Proofs.YtofjgdbiieanjaaW.PrintLast Go.Proofs.Ytofjgdbiieanjaa.NetField Go.Proofs.Ytofjgdbiieanjaa.NetSum Go.Proofs.Ytofjgdbiieanjaa.NetRef Go.Proofs.Ytofjgdbiieanjaa.NetTurn
open Go.Proofs.Ytofjgdbiieanjaa.NetTcp (pseudoV pseudoV_range pseudo_eq cut_of)
/-! What is built is whole, and says what it was built of. -/
theorem udp_list {s d f t : Int} (b : List Int) : buildL s d f t b = f / 256 :: f % 256 :: t / 256 :: t % 256 :: ((8 + b.length : Nat) : Int) / 256 :: ((8 + b.length : Nat) : Int) % 256 :: checkV s d f t b / 256 :: checkV s d f t b % 256 :: b := by
  have hc := check_range s d f t b
  unfold buildL
  rw [two_bytes (by omega) hc.2]
  rfl
theorem udp_length (s d f t : Int) (b : List Int) : (buildL s d f t b).length = 8 + b.length := by rw [udp_list]; simp; omega
theorem udp_byte {s d f t : Int} (b : List Int) (f0 : 0 ≤ f) (f1 : f < 65536) (t0 : 0 ≤ t) (t1 : t < 65536) (hl : b.length ≤ 1472) (hb : Byte b) : Byte (buildL s d f t b) := by
  have hc := check_range s d f t b
  rw [udp_list]
  generalize checkV s d f t b = c at *
  iterate 8 refine byte_cons (by omega) ?_
  exact hb
theorem F_full {w : Int} (h : F w = 65535) : F (w + 65535) = 65535 := by
  unfold F at *
  split at h
  · omega
  · split <;> omega
theorem udp_sum {s d f t : Int} (b : List Int) (f0 : 0 ≤ f) (f1 : f < 65536) (t0 : 0 ≤ t) (t1 : t < 65536) (hl : b.length ≤ 1472) (hb : Byte b) :
    F (pseudoV 17 s d ((8 + b.length : Nat) : Int) + WL 0 (buildL s d f t b)) = 65535 := by
  have hw := WL_nonneg (headL f t ((8 + b.length : Nat) : Int) ++ b) 0 (byte_app (headL_byte f0 f1 t0 t1 (by omega) (by omega)) hb)
  have hp := pseudoV_range 17 s d ((8 + b.length : Nat) : Int)
  have e : WL 0 (buildL s d f t b) = WL 0 (headL f t ((8 + b.length : Nat) : Int) ++ b) + checkV s d f t b := by
    rw [udp_list]
    generalize checkV s d f t b = c
    unfold headL
    simp only [WL, List.cons_append, List.nil_append]
    simp only [Nat.reduceAdd, Nat.reduceMod, if_true, if_false, Nat.one_ne_zero]
    omega
  rw [e]
  unfold checkV
  by_cases h : sumV s d f t b = 0
  · rw [if_pos h, ← Int.add_assoc]
    refine F_full ?_
    have h2 : 65535 - F (pseudoV 17 s d ((8 + b.length : Nat) : Int) + WL 0 (headL f t ((8 + b.length : Nat) : Int) ++ b)) = 0 := h
    omega
  · rw [if_neg h, ← Int.add_assoc]
    exact whole (w := pseudoV 17 s d ((8 + b.length : Nat) : Int) + WL 0 (headL f t ((8 + b.length : Nat) : Int) ++ b)) (by omega)
theorem rd_app {l m : List Int} {i : Nat} (h : i < l.length) : rd (l ++ m) (i : Int) = rd l (i : Int) := by
  unfold rd
  rw [Int.toNat_natCast, List.getD_eq_getElem?_getD, List.getD_eq_getElem?_getD, List.getElem?_append_left h]
theorem two_app {l m : List Int} {i : Nat} (h : i + 1 < l.length) : two (l ++ m) i = two l i := by
  unfold two
  rw [rd_app (by omega), rd_app h]
theorem udp_words {s d f t : Int} (b : List Int) : two (buildL s d f t b) 0 = f ∧ two (buildL s d f t b) 2 = t ∧ two (buildL s d f t b) 4 = ((8 + b.length : Nat) : Int) ∧ two (buildL s d f t b) 6 = checkV s d f t b := by
  rw [udp_list]
  refine ⟨?_, ?_, ?_, ?_⟩
  · show 256 * (f / 256) + f % 256 = f; omega
  · show 256 * (t / 256) + t % 256 = t; omega
  · show 256 * (((8 + b.length : Nat) : Int) / 256) + ((8 + b.length : Nat) : Int) % 256 = ((8 + b.length : Nat) : Int); omega
  · show 256 * (checkV s d f t b / 256) + checkV s d f t b % 256 = checkV s d f t b; omega
theorem udp_parsed {s d f t : Int} (b m : List Int) (f0 : 0 ≤ f) (f1 : f < 65536) (t0 : 0 ≤ t) (t1 : t < 65536) (hl : b.length ≤ 1472) (hb : Byte b) : parseV s d (buildL s d f t b ++ m) = (f, t, 0) := by
  have L := udp_length s d f t b
  have S := udp_sum (s := s) (d := d) b f0 f1 t0 t1 hl hb
  obtain ⟨h0, h2, h4, h6⟩ := udp_words (s := s) (d := d) (f := f) (t := t) b
  unfold parseV
  rw [two_app (by omega), two_app (by omega), two_app (by omega), two_app (by omega), h0, h2, h4, h6, List.length_append, Int.toNat_natCast, ← L, List.take_left, L, if_neg (by omega), if_neg (by omega), if_neg (by omega), if_neg (fun h => h.2 S)]
theorem two_turn {l : List Int} {i j m : Nat} (hj : j < l.length) (h : j ≠ i) (h1 : j ≠ i + 1) : two (turnL l j m) i = two l i := by
  unfold two
  rw [turnL_rd hj h, turnL_rd hj h1]
/-- One bit of the ports, or of what it bears, turned. -/
theorem udp_turned {s d f t : Int} (b : List Int) (f0 : 0 ≤ f) (f1 : f < 65536) (t0 : 0 ≤ t) (t1 : t < 65536) (hl : b.length ≤ 1472) (hb : Byte b) {j m : Nat} (hj : j < 8 + b.length) (hm : m < 8) (ho : j < 4 ∨ 8 ≤ j) :
    parseV s d (turnL (buildL s d f t b) j m) = (0, 0, 7) := by
  have L := udp_length s d f t b
  have B := udp_byte (s := s) (d := d) b f0 f1 t0 t1 hl hb
  have S := udp_sum (s := s) (d := d) b f0 f1 t0 t1 hl hb
  have hc := check_range s d f t b
  have T := turnL_sum B S (j := j) (m := m) (by omega) hm
  obtain ⟨h0, h2, h4, h6⟩ := udp_words (s := s) (d := d) (f := f) (t := t) b
  unfold parseV
  rw [two_turn (i := 4) (by omega) (by omega) (by omega), two_turn (i := 6) (by omega) (by omega) (by omega), h4, h6, Int.toNat_natCast, turnL_length, List.take_of_length_le (by rw [turnL_length]; omega), if_neg (by omega), if_neg (by omega), if_neg (by omega), if_pos ⟨by omega, T⟩]
/-- One bit of its length or its checksum turned: something is wrong, or the ports are the same. -/
theorem udp_turned2 {s d f t : Int} (b : List Int) {j m : Nat} (hj : j < 8 + b.length) (ho : 4 ≤ j) : ∃ x y z, parseV s d (turnL (buildL s d f t b) j m) = (x, y, z) ∧ (z = 0 → x = f ∧ y = t) := by
  have L := udp_length s d f t b
  obtain ⟨h0, h2, h4, h6⟩ := udp_words (s := s) (d := d) (f := f) (t := t) b
  unfold parseV
  rw [two_turn (i := 0) (by omega) (by omega) (by omega), two_turn (i := 2) (by omega) (by omega) (by omega), h0, h2]
  split
  · exact ⟨_, _, _, rfl, fun h => by omega⟩
  · split
    · exact ⟨_, _, _, rfl, fun h => by omega⟩
    · split
      · exact ⟨_, _, _, rfl, fun h => by omega⟩
      · split
        · exact ⟨_, _, _, rfl, fun h => by omega⟩
        · exact ⟨_, _, _, rfl, fun _ => ⟨rfl, rfl⟩⟩
end Go.Proofs.Ytofjgdbiieanjaa.NetUdp
