import Derived.Test.YtofjgdbiieanjaaAllx25
import Derived.Test.YtofjgdbiieanjaaAllx49
import Derived.Test.YtofjgdbiieanjaaNetPs
namespace Go.Proofs.Ytofjgdbiieanjaa.NetTcp
open Go.RowKit Go.Proofs.Ytofjgdbiieanjaa.All Go.Proofs.Ytofjgdbiieanjaa.Ext Go.Proofs.Ytofjgdbiieanjaa.Bits Go.Proofs.YtofjgdbiieanjaaW.PrintWords Go.Proofs.YtofjgdbiieanjaaW.PrintLast Go.Proofs.Ytofjgdbiieanjaa.NetField Go.Proofs.Ytofjgdbiieanjaa.NetSum Go.Proofs.Ytofjgdbiieanjaa.NetRef
/-! What tcp and its reference come to. -/
/-- What holds of each of the 256 bytes holds of a byte. -/
theorem byte_all {f : Int → Bool} (h : ((List.range 256).all fun n => f (n : Int)) = true) {a : Int} (h0 : 0 ≤ a) (h1 : a < 256) : f a = true := by
  have h2 := List.all_eq_true.1 h a.toNat (List.mem_range.2 (by omega))
  rwa [show ((a.toNat : Nat) : Int) = a by omega] at h2
theorem sane_all : ((List.range 256).all fun n => tcp_Sane.f (n : Int) == some (refSane (n : Int))) = true := by kernel_rfl
theorem sane_eq {a : Int} (h0 : 0 ≤ a) (h1 : a < 256) : tcp_Sane.f a = some (refSane a) := eq_of_beq (byte_all (f := fun a => tcp_Sane.f a == some (refSane a)) sane_all h0 h1)
theorem refSane_eq {a : Int} (h0 : 0 ≤ a) (h1 : a < 256) : mantletref05_Sane.f a = some (refSane a) := by unfold mantletref05_Sane.f; rw [if_pos ⟨h0, h1⟩]
theorem and63_all : ((List.range 256).all fun n => (Go.bits .and .u8 (n : Int) 63 == (n : Int) % 64) && (refSane ((n : Int) % 64) == refSane (n : Int)) && (((Go.bits .andNot .u8 (n : Int) 63) != 0) == decide ((n : Int) > 63))) = true := by kernel_rfl
theorem and63 {a : Int} (h0 : 0 ≤ a) (h1 : a < 256) : Go.bits .and .u8 a 63 = a % 64 ∧ refSane (a % 64) = refSane a ∧ ((Go.bits .andNot .u8 a 63) != 0) = decide (a > 63) := by
  have h := byte_all (f := fun n => (Go.bits .and .u8 n 63 == n % 64) && (refSane (n % 64) == refSane n) && (((Go.bits .andNot .u8 n 63) != 0) == decide (n > 63))) and63_all h0 h1
  simp only [Bool.and_eq_true, beq_iff_eq] at h
  exact ⟨h.1.1, h.1.2, h.2⟩
/-- What a segment says, or what is wrong. -/
def parseV (s d : Int) (l : List Int) : Int × Int × Int × Int :=
  if l.length < 20 then (0, 0, 0, 4) else if 4 * (rd l 12 / 16) < 20 then (0, 0, 0, 6) else if 4 * (rd l 12 / 16) > l.length then (0, 0, 0, 4)
  else if F (pseudoV 6 s d l.length + WL 0 l) ≠ 65535 then (0, 0, 0, 7) else if refSane (rd l 13 % 64) = true then (two l 0, two l 2, rd l 13 % 64, 0) else (0, 0, 0, 11)
theorem parse_eq {s d : Int} (l : List Int) (k : Nat) (s0 : 0 ≤ s) (s1 : s < 4294967296) (d0 : 0 ≤ d) (d1 : d < 4294967296) (hb : Byte l) (hl : l.length ≤ 10000) :
    tcp_Parse.f (k + 40 + l.length) s d l = some (parseV s d l) := by
  unfold tcp_Parse.f parseV
  by_cases h20 : l.length < 20
  · rw [if_pos (by omega), if_pos h20]
  · have b12 := rd_byte hb (i := 12) (by omega)
    have b13 := rd_byte hb (i := 13) (by omega)
    rw [show ((12 : Nat) : Int) = 12 from rfl] at b12
    rw [show ((13 : Nat) : Int) = 13 from rfl] at b13
    have ew : wrap64 ((wrap64 (rd l 12 / 16)) * 4) = 4 * (rd l 12 / 16) := by rw [w64 (n := rd l 12 / 16) (by omega) (by omega), w64 (by omega) (by omega)]; omega
    rw [if_neg (by omega), if_neg h20, if_pos (by omega), if_pos (by omega), ew]
    by_cases h6 : 4 * (rd l 12 / 16) < 20
    · rw [if_pos h6, if_pos h6]
    · rw [if_neg h6, if_neg h6]
      by_cases h4 : 4 * (rd l 12 / 16) > l.length
      · rw [if_pos h4, if_pos h4]
      · have hp := pseudoV_range 6 s d l.length
        have hps := pseudo_eq (p := 6) (n := (l.length : Int)) (k + l.length) (by omega) (by omega) s0 s1 d0 d1
        have hs := add_eq l (s := pseudoV 6 s d l.length) (k + 35) hb (by omega) hp.1 hp.2
        rw [show k + l.length + 40 = k + 40 + l.length by omega] at hps
        rw [show k + 35 + 5 + l.length = k + 40 + l.length by omega] at hs
        rw [if_neg h4, if_neg h4, hps, Option.bind_some, hs, Option.bind_some]
        by_cases h7 : F (pseudoV 6 s d l.length + WL 0 l) = 65535
        · have ha := and63 b13.1 b13.2
          have n0 := num2 (l := l) hb (i := 0) (k + 29 + l.length) (by omega) (by omega)
          have n2 := num2 (l := l) hb (i := 2) (k + 29 + l.length) (by omega) (by omega)
          rw [show k + 29 + l.length + 11 = k + 40 + l.length by omega] at n0 n2
          rw [show ((0 : Nat) : Int) = 0 from rfl] at n0
          rw [show ((2 : Nat) : Int) = 2 from rfl] at n2
          have t0 := two_range hb (i := 0) (by omega)
          have t2 := two_range hb (i := 2) (by omega)
          rw [if_pos h7, if_neg (show ¬ (F (pseudoV 6 s d l.length + WL 0 l) ≠ 65535) from fun h => h h7), ha.1, sane_eq (by omega) (by omega), Option.bind_some]
          by_cases hsn : refSane (rd l 13 % 64) = true
          · rw [if_pos hsn, if_pos hsn, n0, Option.bind_some, n2, Option.bind_some]
            dsimp only
            rw [wrap_u16, wrap_u16, Int.emod_eq_of_lt (by omega) (by omega), Int.emod_eq_of_lt (by omega) (by omega)]
          · rw [if_neg hsn, if_neg hsn]
        · rw [if_neg h7, if_pos (show F (pseudoV 6 s d l.length + WL 0 l) ≠ 65535 from h7)]
end Go.Proofs.Ytofjgdbiieanjaa.NetTcp
