/-
  mantletlaw06.UdpBack: built datagrams are parsed unchanged, whatever follows; with one bit of the ports or content changed the checksum is wrong.
  No condition: any addresses, ports, bytes and bit.
-/
import Derived.Test.YtofjgdbiieanjaaBackUdpBack
import Derived.Test.YtofjgdbiieanjaaNetUdpA
import Derived.Test.YtofjgdbiieanjaaNetUdpK
namespace Go.Proofs.Ytofjgdbiieanjaa.Pure
open Go.RowKit Go.Proofs.Ytofjgdbiieanjaa.All Go.Proofs.Ytofjgdbiieanjaa.Ext Go.Proofs.Ytofjgdbiieanjaa.Bits Go.Proofs.YtofjgdbiieanjaaW.PrintWords Go.Proofs.YtofjgdbiieanjaaW.PrintLast Go.Proofs.Ytofjgdbiieanjaa.NetSum Go.Proofs.Ytofjgdbiieanjaa.NetField Go.Proofs.Ytofjgdbiieanjaa.NetRef Go.Proofs.Ytofjgdbiieanjaa.NetUdp Go.Proofs.Ytofjgdbiieanjaa.NetTurn
theorem UdpBack : mantletlaw06_UdpBack.Pure := by
  intro s d f t l l2 y hs hd hf ht _ _ hb0 _ _ hb02 hy
  obtain ⟨s0, s1⟩ := wf_u32 hs
  obtain ⟨d0, d1⟩ := wf_u32 hd
  obtain ⟨f0, f1⟩ := wf_u16 hf
  obtain ⟨t0, t1⟩ := wf_u16 ht
  obtain ⟨y0, y1⟩ := wf_u16 hy
  have hb := short_byte (byte_of hb0)
  have hl := short_length l
  have hb2 := short_byte (byte_of hb02)
  have hl2 := short_length l2
  refine ⟨6002, ?_⟩
  unfold mantletlaw06_UdpBack.f
  rw [short_eq, Option.bind_some, short_eq]
  generalize shortL l = b at *
  generalize shortL l2 = b2 at *
  have h1 := build_eq (s := s) (d := d) (f := f) (t := t) b (5922 - b.length) s0 s1 d0 d1 f0 f1 t0 t1 hb (by omega)
  rw [show 5922 - b.length + 80 + b.length = 6002 by omega] at h1
  have hw := awake_from 5922
  have hw2 := awake_from 5920
  rw [h1, Option.bind_some]
  unfold buildV
  by_cases hlen : b.length > 1472
  · rw [if_pos hlen]
    dsimp only
    rw [if_neg (by omega), hw, Option.bind_some, if_pos rfl, if_pos (by omega)]
    rfl
  · rw [if_neg hlen]
    dsimp only
    have L := udp_length s d f t b
    have B := udp_byte (s := s) (d := d) b f0 f1 t0 t1 (by omega) hb
    have P := udp_parsed (s := s) (d := d) b b2 f0 f1 t0 t1 (by omega) hb
    have T := @udp_turned s d f t b f0 f1 t0 t1 (by omega) hb
    have T2 := @udp_turned2 s d f t b
    have hc := check_range s d f t b
    have h6 := (udp_words (s := s) (d := d) (f := f) (t := t) b).2.2.2
    generalize buildL s d f t b = p at *
    have h2 := parse_eq (s := s) (d := d) (p ++ b2) (5952 - (p ++ b2).length) s0 s1 d0 d1 (byte_app B hb2) (by rw [List.length_append]; omega)
    rw [P, show 5952 - (p ++ b2).length + 50 + (p ++ b2).length = 6002 by rw [List.length_append]; omega] at h2
    have r6 := rd_byte B (i := 6) (by omega)
    have r7 := rd_byte B (i := 7) (by omega)
    have h67 : 256 * rd p 6 + rd p 7 = checkV s d f t b := h6
    rw [show ((6 : Nat) : Int) = 6 from rfl] at r6
    rw [show ((7 : Nat) : Int) = 7 from rfl] at r7
    rw [if_pos rfl, Option.bind_some, if_pos (by rw [List.length_nil]; omega), Option.bind_some, Option.bind_some, List.nil_append, if_pos (by omega), h2, Option.bind_some]
    dsimp only
    rw [if_pos rfl, if_pos rfl, if_pos rfl, w64 (n := 8 + (b.length : Int)) (by omega) (by omega), if_pos (by omega), if_pos (by omega)]
    have hj0 : mantletlaw06_UdpBack.j0 6002 s d f t y p false = some true := by
      simp only [mantletlaw06_UdpBack.j0]
      obtain ⟨j, hj, hj1⟩ := spot (n := p.length) y0 y1 (by omega)
      obtain ⟨m, hm, hm1⟩ := spot8 y0
      rw [if_neg (by decide), if_neg (by omega), hj, hm, if_pos (by omega), if_pos (by omega), if_pos (by omega), Int.toNat_natCast]
      have h4 := parse_eq (s := s) (d := d) (turnL p j m) (5951 - p.length) s0 s1 d0 d1 (turnL_byte B hj1 hm1) (by rw [turnL_length]; omega)
      rw [turnL_length, show 5951 - p.length + 50 + p.length = 6001 by omega] at h4
      unfold turnL at h4
      rw [h4, Option.bind_some]
      by_cases ha : 4 ≤ j
      · rw [if_pos (by omega)]
        by_cases h8 : j < 8
        · obtain ⟨x, z, e, hx, hz⟩ := T2 (j := j) (m := m) (by omega) ha
          unfold turnL at hx
          rw [hx, decide_eq_true (by omega)]
          simp only [mantletlaw06_UdpBack.j1]
          rw [if_pos trivial, hw2, Option.bind_some, if_pos rfl]
          by_cases he : e = 0
          · obtain ⟨rfl, rfl⟩ := hz he
            rw [if_pos he, if_pos rfl, beq_self_eq_true]
          · rw [if_neg he]
        · have hx := T (j := j) (m := m) (by omega) hm1 (by omega)
          unfold turnL at hx
          rw [hx, decide_eq_false (by omega)]
          simp only [mantletlaw06_UdpBack.j1]
          rw [if_neg (by decide), hw2, Option.bind_some, if_pos rfl]
          rfl
      · have hx := T (j := j) (m := m) (by omega) hm1 (by omega)
        unfold turnL at hx
        rw [hx, if_neg (by omega)]
        simp only [mantletlaw06_UdpBack.j1]
        rw [if_neg (by decide), hw2, Option.bind_some, if_pos rfl]
        rfl
    by_cases hz : rd p 6 = 0
    · rw [if_pos hz, if_pos (by omega), beq_eq_false_iff_ne.2 (by omega)]
      exact hj0
    · rw [if_neg hz]
      exact hj0
end Go.Proofs.Ytofjgdbiieanjaa.Pure
