import Derived.Test.YtofjgdbiieanjaaAllx24
import Derived.Test.YtofjgdbiieanjaaAllx25
import Derived.Test.YtofjgdbiieanjaaAllx28
import Derived.Test.YtofjgdbiieanjaaAllx30
import Derived.Test.YtofjgdbiieanjaaNetRef
namespace Go.Proofs.Ytofjgdbiieanjaa.NetTcp
open Go.RowKit Go.Proofs.Ytofjgdbiieanjaa.All Go.Proofs.Ytofjgdbiieanjaa.Ext Go.Proofs.Ytofjgdbiieanjaa.Bits Go.Proofs.YtofjgdbiieanjaaW.PrintWords Go.Proofs.YtofjgdbiieanjaaW.PrintLast Go.Proofs.Ytofjgdbiieanjaa.NetField Go.Proofs.Ytofjgdbiieanjaa.NetSum Go.Proofs.Ytofjgdbiieanjaa.NetRef
/-! What tcp and its reference come to. -/
theorem short_eq (l : List Int) : mantletlaw05_short.f l = some (shortL l) := by unfold mantletlaw05_short.f; exact short_of l
/-- What holds of each of the 256 bytes holds of a byte. -/
theorem byte_all {f : Int → Bool} (h : ((List.range 256).all fun n => f (n : Int)) = true) {a : Int} (h0 : 0 ≤ a) (h1 : a < 256) : f a = true := by
  have h2 := List.all_eq_true.1 h a.toNat (List.mem_range.2 (by omega))
  rwa [show ((a.toNat : Nat) : Int) = a by omega] at h2
theorem sane_all : ((List.range 256).all fun n => tcp_Sane.f (n : Int) == some (refSane (n : Int))) = true := by kernel_rfl
theorem sane_eq {a : Int} (h0 : 0 ≤ a) (h1 : a < 256) : tcp_Sane.f a = some (refSane a) := eq_of_beq (byte_all (f := fun a => tcp_Sane.f a == some (refSane a)) sane_all h0 h1)
theorem refSane_eq {a : Int} (h0 : 0 ≤ a) (h1 : a < 256) : mantletref05_Sane.f a = some (refSane a) := by unfold mantletref05_Sane.f; rw [if_pos ⟨h0, h1⟩]
theorem and63_all : ((List.range 256).all fun n => (Go.bits .and .u8 (n : Int) 63 == (n : Int) % 64) && (refSane ((n : Int) % 64) == refSane (n : Int)) && (((Go.bits .andNot .u8 (n : Int) 63) != 0) == decide ((n : Int) > 63))) = true := by kernel_rfl
theorem and63 {a : Int} (h0 : 0 ≤ a) (h1 : a < 256) : Go.bits .and .u8 a 63 = a % 64 ∧ refSane (a % 64) = refSane a ∧ ((Go.bits .andNot .u8 a 63) != 0) = decide (a > 63) := by
  have h := byte_all (f := fun n => (Go.bits .and .u8 n 63 == n % 64) && (refSane (n % 64) == refSane n) && (((Go.bits .andNot .u8 n 63) != 0) == decide (n > 63))) and63_all h0 h1
  simp only [Bool.and_eq_true, beq_iff_eq] at h
  exact ⟨h.1.1, h.1.2, h.2⟩
/-- What a checksum covers beside the bytes. -/
def pseudoL (p s d n : Int) : List Int := bytesL s.toNat 4 ++ (bytesL d.toNat 4 ++ ([0, p] ++ bytesL (IntKind.u64.wrap n).toNat 2))
theorem pseudoL_length (p s d n : Int) : (pseudoL p s d n).length = 12 := by simp [pseudoL, bytesL_length]
theorem pseudoL_byte {p : Int} (s d n : Int) (p0 : 0 ≤ p) (p1 : p < 256) : Byte (pseudoL p s d n) :=
  byte_app (byte_bytesL _ _) (byte_app (byte_bytesL _ _) (byte_app (byte_cons (by omega) (byte_cons ⟨p0, p1⟩ byte_nil)) (byte_bytesL _ _)))
def pseudoV (p s d n : Int) : Int := F (WL 0 (pseudoL p s d n))
theorem pseudoV_range (p s d n : Int) : 0 ≤ pseudoV p s d n ∧ pseudoV p s d n ≤ 65535 := F_range _
theorem cut_of {v : Int} (s k : Nat) (h0 : 0 ≤ v) (h1 : 1 ≤ s) (h8 : s ≤ 8) : field_Cut.f (k + 11) v (s : Int) = some (bytesL v.toNat s) := by
  have h := cut_yes v.toNat s k h1 h8
  rwa [show ((v.toNat : Nat) : Int) = v by omega] at h
theorem pseudo_eq {p s d n : Int} (k : Nat) (p0 : 0 ≤ p) (p1 : p < 256) (s0 : 0 ≤ s) (s1 : s < 4294967296) (d0 : 0 ≤ d) (d1 : d < 4294967296) :
    tcp_Pseudo.f (k + 40) p s d n = some (pseudoV p s d n) := by
  have hw : 0 ≤ IntKind.u64.wrap n := by rw [wrap_u64]; omega
  have c1 := cut_of (v := s) 4 (k + 29) s0 (by omega) (by omega)
  have c2 := cut_of (v := d) 4 (k + 29) d0 (by omega) (by omega)
  have c3 := cut_of (v := IntKind.u64.wrap n) 2 (k + 29) hw (by omega) (by omega)
  have hc := concat_eq [bytesL s.toNat 4, bytesL d.toNat 4, [0, p], bytesL (IntKind.u64.wrap n).toNat 2] (k + 30) (by simp) (by simp [bytesL_length])
  simp only [List.length_cons, List.length_nil, List.flatten_cons, List.flatten_nil, List.append_nil] at hc
  have ha := add_eq (pseudoL p s d n) (s := 0) (k + 23) (pseudoL_byte s d n p0 p1) (by rw [pseudoL_length]; omega) (by omega) (by omega)
  rw [pseudoL_length, Int.zero_add] at ha
  rw [show k + 29 + 11 = k + 40 by omega] at c1 c2 c3
  rw [show k + 30 + 2 + (0 + 1 + 1 + 1 + 1) + (0 + 1 + 1 + 1 + 1) = k + 40 by omega] at hc
  rw [show k + 23 + 5 + 12 = k + 40 by omega] at ha
  unfold tcp_Pseudo.f
  rw [wraps_u64 s s0 (by omega), wraps_u64 d d0 (by omega)]
  rw [show ((4 : Nat) : Int) = 4 from rfl] at c1 c2
  rw [show ((2 : Nat) : Int) = 2 from rfl] at c3
  rw [c1, Option.bind_some, c2, Option.bind_some, c3, Option.bind_some, hc, Option.bind_some]
  show (sum_Add.f (k + 40) 0 (pseudoL p s d n)).bind _ = _
  rw [ha, Option.bind_some]; rfl
theorem wide_eq {a : Int} (h0 : 0 ≤ a) (h1 : a < 4294967296) : mantletref04_Wide.f a = some (bytesL a.toNat 4) := by
  unfold mantletref04_Wide.f
  have e1 : Int.tdiv a 65536 % 4294967296 = a / 65536 := by rw [Int.tdiv_eq_ediv_of_nonneg h0]; omega
  have e2 : wrap64 (Int.tmod a 65536) = a % 65536 := by rw [Int.tmod_eq_emod_of_nonneg h0, w64 (by omega) (by omega)]
  rw [e1, e2, put_two (by omega) (by omega), put_two (by omega) (by omega), Option.bind_some, Option.bind_some, if_pos (by rw [bytesL_length, bytesL_length]; omega)]
  congr 1
  simp only [bytesL, Nat.reduceMul, Nat.reducePow, List.cons_append, List.nil_append]
  refine List.cons_eq_cons.2 ⟨by omega, List.cons_eq_cons.2 ⟨by omega, List.cons_eq_cons.2 ⟨by omega, List.cons_eq_cons.2 ⟨by omega, rfl⟩⟩⟩⟩
theorem refPseudo_eq {p s d n : Int} (k : Nat) (p0 : 0 ≤ p) (p1 : p < 256) (s0 : 0 ≤ s) (s1 : s < 4294967296) (d0 : 0 ≤ d) (d1 : d < 4294967296) :
    mantletref05_Pseudo.f (k + 40) p s d n = some (pseudoV p s d n) := by
  have hw : 0 ≤ IntKind.u64.wrap n ∧ IntKind.u64.wrap n < 18446744073709551616 := by rw [wrap_u64]; omega
  have ha := ref_eq (pseudoL p s d n) (s := 0) (k + 27) (pseudoL_byte s d n p0 p1) (by rw [pseudoL_length]; omega) (by omega) (by omega)
  rw [pseudoL_length, Int.zero_add, show k + 27 + 1 + 12 = k + 40 by omega] at ha
  have e1 : [(IntKind.u64.wrap (Int.tdiv (IntKind.u64.wrap n) 256)) % 256, (IntKind.u64.wrap n) % 256] = bytesL (IntKind.u64.wrap n).toNat 2 := by
    generalize IntKind.u64.wrap n = m at hw
    rw [Int.tdiv_eq_ediv_of_nonneg hw.1, wraps_u64 _ (by omega) (by omega)]
    simp only [bytesL, Nat.reduceMul, Nat.reducePow]
    refine List.cons_eq_cons.2 ⟨by omega, List.cons_eq_cons.2 ⟨by omega, rfl⟩⟩
  unfold mantletref05_Pseudo.f
  rw [wide_eq s0 s1, wide_eq d0 d1, Option.bind_some, Option.bind_some, if_pos (by rw [bytesL_length, bytesL_length]; omega), Option.bind_some, Option.bind_some, if_pos (by simp [bytesL_length]), Option.bind_some, e1, Option.bind_some, if_pos (by simp [bytesL_length])]
  rw [show bytesL s.toNat 4 ++ bytesL d.toNat 4 ++ [0, p] ++ bytesL (IntKind.u64.wrap n).toNat 2 = pseudoL p s d n by simp [pseudoL], ha, Option.bind_some]
  rfl
/-- What a segment says, or what is wrong. -/
def parseV (s d : Int) (l : List Int) : Int × Int × Int × Int :=
  if l.length < 20 then (0, 0, 0, 4) else if 4 * (rd l 12 / 16) < 20 then (0, 0, 0, 6) else if 4 * (rd l 12 / 16) > l.length then (0, 0, 0, 4)
  else if F (pseudoV 6 s d l.length + WL 0 l) ≠ 65535 then (0, 0, 0, 7) else if refSane (rd l 13 % 64) = true then (two l 0, two l 2, rd l 13 % 64, 0) else (0, 0, 0, 11)
theorem parse_eq {s d : Int} (l : List Int) (k : Nat) (s0 : 0 ≤ s) (s1 : s < 4294967296) (d0 : 0 ≤ d) (d1 : d < 4294967296) (hb : Byte l) (hl : l.length ≤ 10000) :
    tcp_Parse.f (k + 40 + l.length) s d l = some (parseV s d l) := by
  unfold tcp_Parse.f parseV
  by_cases h20 : l.length < 20
  · rw [if_pos (by omega), if_pos h20]
  · have b12 := rd_byte hb (i := 12) (by omega)
    have b13 := rd_byte hb (i := 13) (by omega)
    rw [show ((12 : Nat) : Int) = 12 from rfl] at b12
    rw [show ((13 : Nat) : Int) = 13 from rfl] at b13
    have ew : wrap64 ((wrap64 (rd l 12 / 16)) * 4) = 4 * (rd l 12 / 16) := by rw [w64 (n := rd l 12 / 16) (by omega) (by omega), w64 (by omega) (by omega)]; omega
    rw [if_neg (by omega), if_neg h20, if_pos (by omega), if_pos (by omega), ew]
    by_cases h6 : 4 * (rd l 12 / 16) < 20
    · rw [if_pos h6, if_pos h6]
    · rw [if_neg h6, if_neg h6]
      by_cases h4 : 4 * (rd l 12 / 16) > l.length
      · rw [if_pos h4, if_pos h4]
      · have hp := pseudoV_range 6 s d l.length
        have hps := pseudo_eq (p := 6) (n := (l.length : Int)) (k + l.length) (by omega) (by omega) s0 s1 d0 d1
        have hs := add_eq l (s := pseudoV 6 s d l.length) (k + 35) hb (by omega) hp.1 hp.2
        rw [show k + l.length + 40 = k + 40 + l.length by omega] at hps
        rw [show k + 35 + 5 + l.length = k + 40 + l.length by omega] at hs
        rw [if_neg h4, if_neg h4, hps, Option.bind_some, hs, Option.bind_some]
        by_cases h7 : F (pseudoV 6 s d l.length + WL 0 l) = 65535
        · have ha := and63 b13.1 b13.2
          have n0 := num2 (l := l) hb (i := 0) (k + 29 + l.length) (by omega) (by omega)
          have n2 := num2 (l := l) hb (i := 2) (k + 29 + l.length) (by omega) (by omega)
          rw [show k + 29 + l.length + 11 = k + 40 + l.length by omega] at n0 n2
          rw [show ((0 : Nat) : Int) = 0 from rfl] at n0
          rw [show ((2 : Nat) : Int) = 2 from rfl] at n2
          have t0 := two_range hb (i := 0) (by omega)
          have t2 := two_range hb (i := 2) (by omega)
          rw [if_pos h7, if_neg (show ¬ (F (pseudoV 6 s d l.length + WL 0 l) ≠ 65535) from fun h => h h7), ha.1, sane_eq (by omega) (by omega), Option.bind_some]
          by_cases hsn : refSane (rd l 13 % 64) = true
          · rw [if_pos hsn, if_pos hsn, n0, Option.bind_some, n2, Option.bind_some]
            dsimp only
            rw [wrap_u16, wrap_u16, Int.emod_eq_of_lt (by omega) (by omega), Int.emod_eq_of_lt (by omega) (by omega)]
          · rw [if_neg hsn, if_neg hsn]
        · rw [if_neg h7, if_pos (show F (pseudoV 6 s d l.length + WL 0 l) ≠ 65535 from h7)]
theorem refParse_eq {s d : Int} (l : List Int) (k : Nat) (s0 : 0 ≤ s) (s1 : s < 4294967296) (d0 : 0 ≤ d) (d1 : d < 4294967296) (hb : Byte l) (hl : l.length ≤ 10000) :
    mantletref05_Parse.f (k + 40 + l.length) s d l = some (parseV s d l) := by
  unfold mantletref05_Parse.f parseV
  by_cases h20 : l.length < 20
  · rw [if_pos (by omega), if_pos h20]
  · have b12 := rd_byte hb (i := 12) (by omega)
    have b13 := rd_byte hb (i := 13) (by omega)
    rw [show ((12 : Nat) : Int) = 12 from rfl] at b12
    rw [show ((13 : Nat) : Int) = 13 from rfl] at b13
    have ew : 4 * ((Int.tdiv (rd l 12) 16) % 256) = 4 * (rd l 12 / 16) := by rw [Int.tdiv_eq_ediv_of_nonneg b12.1]; omega
    rw [if_neg (by omega), if_neg h20, if_pos (by omega), ew]
    by_cases h6 : 4 * (rd l 12 / 16) < 20
    · rw [if_pos h6, if_pos h6]
    · rw [if_neg h6, if_neg h6]
      by_cases h4 : 4 * (rd l 12 / 16) > l.length
      · rw [if_pos h4, if_pos h4]
      · have hp := pseudoV_range 6 s d l.length
        have hps := refPseudo_eq (p := 6) (n := (l.length : Int)) (k + l.length) (by omega) (by omega) s0 s1 d0 d1
        have hs := ref_eq l (s := pseudoV 6 s d l.length) (k + 39) hb (by omega) hp.1 hp.2
        rw [show k + l.length + 40 = k + 40 + l.length by omega] at hps
        rw [show k + 39 + 1 + l.length = k + 40 + l.length by omega] at hs
        rw [if_neg h4, if_neg h4, hps, Option.bind_some, hs, Option.bind_some]
        by_cases h7 : F (pseudoV 6 s d l.length + WL 0 l) = 65535
        · have ha := and63 b13.1 b13.2
          have n0 := two_at (l := l) hb (i := 0) (by omega) (by omega)
          have n2 := two_at (l := l) hb (i := 2) (by omega) (by omega)
          rw [show ((0 : Nat) : Int) = 0 from rfl] at n0
          rw [show ((2 : Nat) : Int) = 2 from rfl] at n2
          have t0 := two_range hb (i := 0) (by omega)
          have t2 := two_range hb (i := 2) (by omega)
          rw [if_pos h7, if_neg (show ¬ (F (pseudoV 6 s d l.length + WL 0 l) ≠ 65535) from fun h => h h7), if_pos (by omega), refSane_eq b13.1 b13.2, Option.bind_some, ha.2.1]
          by_cases hsn : refSane (rd l 13) = true
          · rw [if_pos hsn, if_pos hsn, n0, Option.bind_some, n2, Option.bind_some, wrap_u16, wrap_u16, Int.emod_eq_of_lt (by omega) (by omega), Int.emod_eq_of_lt (by omega) (by omega), Int.tmod_eq_emod_of_nonneg b13.1]
          · rw [if_neg hsn, if_neg hsn]
        · rw [if_neg h7, if_pos (show F (pseudoV 6 s d l.length + WL 0 l) ≠ 65535 from h7)]
theorem awake : mantletlaw05_awake.f 80 = some true := by kernel_rfl
theorem awake_from (k : Nat) : mantletlaw05_awake.f (k + 80) = some true := by
  induction k with
  | zero => rw [Nat.zero_add]; exact awake
  | succ k ih => rw [show k + 1 + 80 = (k + 80) + 1 by omega]; exact mantletlaw05_awake.mono _ _ ih
end Go.Proofs.Ytofjgdbiieanjaa.NetTcp
