/-
  mantletlaw05.TcpBack: built segments are parsed unchanged; with other addresses, or one bit changed, they are refused.
  No condition: any addresses, ports, flags, bytes and bit.
-/
import Derived.Test.YtofjgdbiieanjaaBackTcpBack
import Derived.Test.YtofjgdbiieanjaaNetTcpA
import Derived.Test.YtofjgdbiieanjaaNetTcpK
namespace Go.Proofs.Ytofjgdbiieanjaa.Pure
open Go.RowKit Go.Proofs.Ytofjgdbiieanjaa.All Go.Proofs.Ytofjgdbiieanjaa.Ext Go.Proofs.Ytofjgdbiieanjaa.Bits Go.Proofs.YtofjgdbiieanjaaW.PrintWords Go.Proofs.YtofjgdbiieanjaaW.PrintLast Go.Proofs.Ytofjgdbiieanjaa.NetSum Go.Proofs.Ytofjgdbiieanjaa.NetField Go.Proofs.Ytofjgdbiieanjaa.NetRef Go.Proofs.Ytofjgdbiieanjaa.NetTcp Go.Proofs.Ytofjgdbiieanjaa.NetTurn
theorem TcpBack : mantletlaw05_TcpBack.Pure := by
  intro s d f t g l y hs hd hf ht hg _ _ hb0 hy
  obtain ⟨s0, s1⟩ := wf_u32 hs
  obtain ⟨d0, d1⟩ := wf_u32 hd
  obtain ⟨f0, f1⟩ := wf_u16 hf
  obtain ⟨t0, t1⟩ := wf_u16 ht
  obtain ⟨g0, g1⟩ := wf_u8 hg
  obtain ⟨y0, y1⟩ := wf_u16 hy
  have hb := short_byte (byte_of hb0)
  have hl := short_length l
  refine ⟨5001, ?_⟩
  unfold mantletlaw05_TcpBack.f
  rw [short_eq, Option.bind_some]
  generalize shortL l = b at *
  have h1 := build_eq (s := s) (d := d) (f := f) (t := t) (g := g) b (4921 - b.length) s0 s1 d0 d1 f0 f1 t0 t1 g0 g1 hb (by omega)
  rw [show 4921 - b.length + 80 + b.length = 5001 by omega] at h1
  have hw := awake_from 4921
  have hw2 := awake_from 4920
  rw [h1, Option.bind_some]
  unfold buildV
  by_cases hg2 : refSane g = true ∧ g ≤ 63
  · rw [if_pos hg2]
    by_cases hlen : b.length > 1460
    · rw [if_pos hlen]
      dsimp only
      rw [if_neg (by omega), hw, Option.bind_some, if_pos rfl, if_pos (show ((([] : List Int).length : Nat) : Int) = 0 from rfl), if_neg (by omega), if_pos rfl, decide_eq_true (by omega)]
    · rw [if_neg hlen]
      dsimp only
      have L := tcp_length s d f t g b
      have B := tcp_byte (s := s) (d := d) b f0 f1 t0 t1 g0 g1 hb
      have P := tcp_parsed (s := s) (d := d) b f0 f1 t0 t1 g0 g1 hb hg2
      have S := tcp_sum (s := s) (d := d) b f0 f1 t0 t1 g0 g1 hb
      rw [← L] at S
      generalize buildL s d f t g b = p at *
      have h2 := parse_eq (s := s) (d := d) p (4961 - p.length) s0 s1 d0 d1 B (by omega)
      have h3 := parse_eq (s := d) (d := s) p (4961 - p.length) d0 d1 s0 s1 B (by omega)
      rw [show 4961 - p.length + 40 + p.length = 5001 by omega] at h2 h3
      rw [P] at h2
      rw [tcp_crossed, P] at h3
      rw [if_pos rfl, h2, Option.bind_some, h3, Option.bind_some]
      dsimp only
      iterate 7 rw [if_pos rfl]
      rw [w64 (by omega) (by omega), show ((p.length : Int) != 20 + (b.length : Int)) = false by rw [bne_eq_false_iff_eq]; omega]
      simp only [mantletlaw05_TcpBack.j0]
      obtain ⟨j, hj, hj1⟩ := spot (n := p.length) y0 y1 (by omega)
      obtain ⟨m, hm, hm1⟩ := spot8 y0
      rw [if_neg (by decide), if_neg (by omega), hj, hm, if_pos (by omega), if_pos (by omega), if_pos (by omega), Int.toNat_natCast]
      have h4 := parse_eq (s := s) (d := d) (turnL p j m) (4960 - p.length) s0 s1 d0 d1 (turnL_byte B hj1 hm1) (by rw [turnL_length]; omega)
      obtain ⟨x, hx, hx2⟩ := tcp_turned (s := s) (d := d) B S hj1 hm1
      rw [turnL_length, show 4960 - p.length + 40 + p.length = 5000 by omega, hx] at h4
      unfold turnL at h4
      rw [h4, Option.bind_some, hw2, Option.bind_some, if_pos rfl]
      dsimp only
      rcases hx2 with rfl | rfl | rfl
      · rw [if_pos rfl]
      · rw [if_neg (by omega), if_pos rfl]
      · rw [if_neg (by omega), if_neg (by omega)]
        rfl
  · rw [if_neg hg2]
    dsimp only
    rw [if_neg (by omega), hw, Option.bind_some, if_pos rfl, if_pos (show ((([] : List Int).length : Nat) : Int) = 0 from rfl), if_pos rfl]
end Go.Proofs.Ytofjgdbiieanjaa.Pure
