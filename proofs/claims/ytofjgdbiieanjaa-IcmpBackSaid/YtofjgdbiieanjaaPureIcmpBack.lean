/-
  mantletlaw07.IcmpBack: built messages are parsed unchanged; with one bit changed the checksum is wrong.
  No condition: any kind, ident, bytes and bit.
-/
import Derived.Test.YtofjgdbiieanjaaBackIcmpBack
import Derived.Test.YtofjgdbiieanjaaNetIcmpK
namespace Go.Proofs.Ytofjgdbiieanjaa.Pure
open Go.RowKit Go.Proofs.Ytofjgdbiieanjaa.All Go.Proofs.Ytofjgdbiieanjaa.Bits Go.Proofs.YtofjgdbiieanjaaW.PrintWords Go.Proofs.YtofjgdbiieanjaaW.PrintLast Go.Proofs.Ytofjgdbiieanjaa.NetSum Go.Proofs.Ytofjgdbiieanjaa.NetField Go.Proofs.Ytofjgdbiieanjaa.NetRef Go.Proofs.Ytofjgdbiieanjaa.NetIcmp Go.Proofs.Ytofjgdbiieanjaa.NetTurn
theorem icmp_main {a i y : Int} (b : List Int) (a0 : 0 ≤ a) (a1 : a < 256) (i0 : 0 ≤ i) (i1 : i < 65536) (y0 : 0 ≤ y) (y1 : y < 65536) (hb : Byte b) (hl : b.length ≤ 1600) (hk : a = 8 ∨ a = 0) :
    mantletlaw07_IcmpBack.j0 5002 i y b a = some true := by
  have h1 := build_eq (a := a) (i := i) b (4961 - b.length) a0 a1 i0 i1 hb (by omega)
  rw [show 4961 - b.length + 40 + b.length = 5001 by omega] at h1
  have hw := awake_from 4941
  have hw2 := awake_from 4940
  simp only [mantletlaw07_IcmpBack.j0]
  rw [h1, Option.bind_some]
  unfold buildV
  rw [if_pos hk]
  by_cases hlen : b.length > 1472
  · rw [if_pos hlen]
    dsimp only
    rw [if_neg (by omega), hw, Option.bind_some, if_pos rfl, if_pos (by omega)]
    rfl
  · rw [if_neg hlen]
    dsimp only
    have L := icmp_length (a := a) (i := i) b
    have B := icmp_byte b a0 a1 i0 i1 hb
    have P := icmp_parsed b a0 a1 i0 i1 hb hk
    have S := icmp_sum b a0 a1 i0 i1 hb
    generalize buildL a i b = p at *
    have h2 := parse_eq p (4990 - p.length) B (by omega)
    rw [show 4990 - p.length + 11 + p.length = 5001 by omega, P] at h2
    rw [if_pos rfl, h2, Option.bind_some]
    dsimp only
    rw [if_pos rfl, if_pos rfl, if_pos rfl, w64 (by omega) (by omega), show ((p.length : Int) != 8 + (b.length : Int)) = false by rw [bne_eq_false_iff_eq]; omega]
    simp only [mantletlaw07_IcmpBack.j1]
    obtain ⟨j, hj, hj1⟩ := spot (n := p.length) y0 y1 (by omega)
    obtain ⟨m, hm, hm1⟩ := spot8 y0
    rw [if_neg (by decide), if_neg (by omega), hj, hm, if_pos (by omega), if_pos (by omega), if_pos (by omega), Int.toNat_natCast]
    have h3 := parse_eq (turnL p j m) (4989 - p.length) (turnL_byte B hj1 hm1) (by rw [turnL_length]; omega)
    have hs := turnL_sum (s := 0) B (by rw [Int.zero_add]; exact S) hj1 hm1
    rw [Int.zero_add] at hs
    have hp : parseV (turnL p j m) = (0, 0, 7) := by
      unfold parseV
      rw [if_neg (by rw [turnL_length]; omega), if_pos hs]
    rw [turnL_length, show 4989 - p.length + 11 + p.length = 5000 by omega, hp] at h3
    unfold turnL at h3
    rw [h3, Option.bind_some, hw2, Option.bind_some, if_pos rfl]
    dsimp only
    rw [if_pos rfl, if_pos rfl]
    rfl
theorem IcmpBack : mantletlaw07_IcmpBack.Pure := by
  intro r i l y hi _ _ hb0 hy
  obtain ⟨i0, i1⟩ := wf_u16 hi
  obtain ⟨y0, y1⟩ := wf_u16 hy
  have hb := short_byte (byte_of hb0)
  have hl := short_length l
  refine ⟨5002, ?_⟩
  unfold mantletlaw07_IcmpBack.f
  rw [short_eq, Option.bind_some]
  cases r with
  | true => rw [if_pos rfl]; exact icmp_main _ (by omega) (by omega) i0 i1 y0 y1 hb hl (.inr rfl)
  | false => rw [if_neg (by decide)]; exact icmp_main _ (by omega) (by omega) i0 i1 y0 y1 hb hl (.inl rfl)
end Go.Proofs.Ytofjgdbiieanjaa.Pure
