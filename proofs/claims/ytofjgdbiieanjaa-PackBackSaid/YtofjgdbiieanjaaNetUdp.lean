import Derived.Test.YtofjgdbiieanjaaAllx38
import Derived.Test.YtofjgdbiieanjaaNetPs
namespace Go.Proofs.Ytofjgdbiieanjaa.NetUdp
open Go.RowKit Go.Proofs.Ytofjgdbiieanjaa.All Go.Proofs.Ytofjgdbiieanjaa.Ext Go.Proofs.Ytofjgdbiieanjaa.Bits Go.Proofs.YtofjgdbiieanjaaW.PrintWords Go.Proofs.YtofjgdbiieanjaaW.PrintLast Go.Proofs.Ytofjgdbiieanjaa.NetField Go.Proofs.Ytofjgdbiieanjaa.NetSum Go.Proofs.Ytofjgdbiieanjaa.NetRef
open Go.Proofs.Ytofjgdbiieanjaa.NetTcp (pseudoV pseudoV_range pseudo_eq)
/-! What udp and its reference come to. -/
theorem word_eq {l : List Int} (hb : Byte l) {i : Nat} (k : Nat) (h : i + 1 < l.length) (hl : l.length ≤ 10000) : udp_word.f (k + 11) l (i : Int) = some (two l i) := by
  have t := two_range hb h
  unfold udp_word.f
  rw [num2 hb k h (by omega), Option.bind_some]
  dsimp only
  rw [wrap_u16, Int.emod_eq_of_lt (by omega) (by omega)]
/-- What a datagram says, or what is wrong. -/
def parseV (s d : Int) (l : List Int) : Int × Int × Int :=
  if l.length < 8 then (0, 0, 4) else if two l 4 < 8 then (0, 0, 6) else if two l 4 > l.length then (0, 0, 4)
  else if two l 6 ≠ 0 ∧ F (pseudoV 17 s d (two l 4) + WL 0 (l.take (two l 4).toNat)) ≠ 65535 then (0, 0, 7) else (two l 0, two l 2, 0)
theorem parse_eq {s d : Int} (l : List Int) (k : Nat) (s0 : 0 ≤ s) (s1 : s < 4294967296) (d0 : 0 ≤ d) (d1 : d < 4294967296) (hb : Byte l) (hl : l.length ≤ 10000) :
    udp_Parse.f (k + 50 + l.length) s d l = some (parseV s d l) := by
  unfold udp_Parse.f parseV
  by_cases h8 : l.length < 8
  · rw [if_pos (by omega), if_pos h8]
  · have t4 := two_range hb (i := 4) (by omega)
    have w0 := word_eq hb (i := 0) (k + 38 + l.length) (by omega) hl
    have w2 := word_eq hb (i := 2) (k + 38 + l.length) (by omega) hl
    have w4 := word_eq hb (i := 4) (k + 39 + l.length) (by omega) hl
    have w6 := word_eq hb (i := 6) (k + 39 + l.length) (by omega) hl
    rw [show k + 38 + l.length + 11 = k + 49 + l.length by omega] at w0 w2
    rw [show k + 39 + l.length + 11 = k + 50 + l.length by omega] at w4 w6
    rw [show ((0 : Nat) : Int) = 0 from rfl] at w0
    rw [show ((2 : Nat) : Int) = 2 from rfl] at w2
    rw [show ((4 : Nat) : Int) = 4 from rfl] at w4
    rw [show ((6 : Nat) : Int) = 6 from rfl] at w6
    rw [if_neg (by omega), if_neg h8, w4, Option.bind_some, w64 (n := two l 4) (by omega) (by omega)]
    by_cases h6 : two l 4 < 8
    · rw [if_pos h6, if_pos h6]
    · rw [if_neg h6, if_neg h6]
      by_cases h4 : two l 4 > l.length
      · rw [if_pos h4, if_pos h4]
      · have hj : ∀ x, udp_Parse.j0 (k + 50 + l.length) l x = some (if x = true then (0, 0, 7) else (two l 0, two l 2, 0)) := by
          intro x
          rw [show k + 50 + l.length = (k + 49 + l.length) + 1 by omega]
          simp only [udp_Parse.j0]
          cases x with
          | true => rw [if_pos rfl, if_pos rfl]
          | false => rw [if_neg (by decide), if_neg (by decide), w0, Option.bind_some, w2, Option.bind_some]
        rw [if_neg h4, if_neg h4, w6, Option.bind_some]
        by_cases hz : two l 6 = 0
        · rw [if_pos hz, hj, if_neg (by decide), if_neg (fun h => h.1 hz)]
        · have hp := pseudoV_range 17 s d (two l 4)
          have hps := pseudo_eq (p := 17) (n := two l 4) (k + 10 + l.length) (by omega) (by omega) s0 s1 d0 d1
          have hlt : (l.take (two l 4).toNat).length = (two l 4).toNat := by rw [List.length_take]; omega
          have hs := add_eq (l.take (two l 4).toNat) (s := pseudoV 17 s d (two l 4)) (k + 45 + l.length - (two l 4).toNat) (byte_take hb _) (by omega) hp.1 hp.2
          rw [show k + 10 + l.length + 40 = k + 50 + l.length by omega] at hps
          rw [hlt, show k + 45 + l.length - (two l 4).toNat + 5 + (two l 4).toNat = k + 50 + l.length by omega] at hs
          rw [if_neg hz, hps, Option.bind_some, if_pos (by omega), if_pos (by omega), hs, Option.bind_some, hj]
          by_cases h7 : F (pseudoV 17 s d (two l 4) + WL 0 (l.take (two l 4).toNat)) = 65535
          · rw [h7, if_neg (by decide), if_neg (fun h => h.2 rfl)]
          · rw [bne_iff_ne.2 h7, if_pos rfl, if_pos ⟨hz, h7⟩]
end Go.Proofs.Ytofjgdbiieanjaa.NetUdp
