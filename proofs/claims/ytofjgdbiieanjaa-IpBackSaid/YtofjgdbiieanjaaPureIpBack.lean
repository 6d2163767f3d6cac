/-
  mantletlaw04.IpBack: built packets are parsed unchanged, whatever follows; with one header bit changed, except in the length, they are refused.
  No condition: any header, any bytes, any bit.
-/
import Derived.Test.YtofjgdbiieanjaaBackIpBack
import Derived.Test.YtofjgdbiieanjaaNetIpA
import Derived.Test.YtofjgdbiieanjaaNetIpK
namespace Go.Proofs.Ytofjgdbiieanjaa.Pure
open Go.RowKit Go.Proofs.Ytofjgdbiieanjaa.All Go.Proofs.Ytofjgdbiieanjaa.Ext Go.Proofs.Ytofjgdbiieanjaa.Bits Go.Proofs.YtofjgdbiieanjaaW.PrintWords Go.Proofs.YtofjgdbiieanjaaW.PrintLast Go.Proofs.Ytofjgdbiieanjaa.NetSum Go.Proofs.Ytofjgdbiieanjaa.NetField Go.Proofs.Ytofjgdbiieanjaa.NetRef Go.Proofs.Ytofjgdbiieanjaa.NetIp Go.Proofs.Ytofjgdbiieanjaa.NetTurn
theorem ipb1 (k : Nat) (a b c d e f g h i j l m) : mantletlaw04_IpBack.j1 k a b c d e f g h i j l m = mantletlaw04_IpBack.j0 k a b c d e f g h i j l m := by
  cases k <;> simp only [mantletlaw04_IpBack.j1, mantletlaw04_IpBack.j0]
theorem ipb2 (k : Nat) (a b c d e f g h i j l m) : mantletlaw04_IpBack.j2 k a b c d e f g h i j l m = mantletlaw04_IpBack.j0 k a b c d e f g h i j l m := by
  cases k <;> simp only [mantletlaw04_IpBack.j2, mantletlaw04_IpBack.j0]
theorem ipb3 (k : Nat) (a b c d e f g h i j l m) : mantletlaw04_IpBack.j3 k a b c d e f g h i j l m = mantletlaw04_IpBack.j0 k a b c d e f g h i j l m := by
  cases k <;> simp only [mantletlaw04_IpBack.j3, mantletlaw04_IpBack.j0]
theorem ip_main {p s d t i y : Int} (z1 z2 : Int) (x m : List Int) (p0 : 0 ≤ p) (p1 : p < 256) (s0 : 0 ≤ s) (s1 : s < 4294967296) (d0 : 0 ≤ d) (d1 : d < 4294967296) (t0 : 0 ≤ t) (t1 : t < 256) (i0 : 0 ≤ i) (i1 : i < 65536)
    (y0 : 0 ≤ y) (y1 : y < 256) (hx : x.length ≤ 1000) (hm : m.length ≤ 400) (hbx : Byte x) (hbm : Byte m) :
    mantletlaw04_IpBack.j0 3001 m y x (buildL p s d t i x) (((buildL p s d t i x).length : Int) != (wrap64 (20 + (x.length : Int)))) p s d z1 z2 t i = some true := by
  have L := ip_length p s d t i x
  have B := ip_byte p0 p1 s0 s1 d0 d1 t0 t1 i0 i1 (b := x) (by omega) hbx
  have P := ip_parsed (b := x) m p0 p1 s0 s1 d0 d1 t0 t1 i0 i1 (by omega) (by omega)
  have T := fun (j q : Nat) => @ip_turned p s d t i x j q p0 p1 s0 s1 d0 d1 t0 t1 i0 i1 (by omega)
  have hw := awake_from 2920
  generalize buildL p s d t i x = l at *
  have h1 := parse_eq (l ++ m) (2980 - (l ++ m).length) (byte_app B hbm)
  rw [P, show 2980 - (l ++ m).length + 20 + (l ++ m).length = 3000 by rw [List.length_append]; omega] at h1
  have e160 : Int.tmod (wrap64 y) 160 = y % 160 := by rw [w64 (by omega) (by omega), Int.tmod_eq_emod_of_nonneg y0]
  have ej : wrap64 (Int.tdiv (y % 160) 8) = ((y % 160 / 8).toNat : Int) := by rw [Int.tdiv_eq_ediv_of_nonneg (by omega), w64 (by omega) (by omega)]; omega
  have em : Int.tmod y 8 = ((y % 8).toNat : Int) := by rw [Int.tmod_eq_emod_of_nonneg y0]; omega
  obtain ⟨j, hj⟩ : ∃ j, j = (y % 160 / 8).toNat := ⟨_, rfl⟩
  obtain ⟨q, hq⟩ : ∃ q, q = (y % 8).toNat := ⟨_, rfl⟩
  have hjl : j < 20 := by omega
  have hql : q < 8 := by omega
  have h2 := parse_eq (turnL l j q) (2980 - l.length) (turnL_byte B (by omega) hql)
  rw [turnL_length, show 2980 - l.length + 20 + l.length = 3000 by omega] at h2
  have T2 := T j q hjl hql
  simp only [mantletlaw04_IpBack.j0]
  rw [w64 (n := 20 + (x.length : Int)) (by omega) (by omega), show ((l.length : Int) != 20 + (x.length : Int)) = false by rw [bne_eq_false_iff_eq]; omega, if_neg (by decide), Option.bind_some, if_pos (by rw [List.length_nil]; omega), Option.bind_some, List.nil_append, if_pos (by omega), h1, Option.bind_some,
    e160, ej, em, ← hj, ← hq, if_pos (by omega), if_pos (by omega), if_pos (by omega), Int.toNat_natCast]
  unfold turnL at h2 T2
  rw [h2, Option.bind_some, hw, Option.bind_some, if_pos rfl]
  dsimp only
  rw [if_pos rfl, show (20 + (x.length : Int) == (l.length : Int)) = true by rw [beq_iff_eq]; omega]
  simp only [beq_self_eq_true, Bool.and_self, if_true]
  by_cases hz : (parseV (l.set j (bits .xor .u8 (rd l (j : Int)) (shl .u8 1 (q : Int))))).2.2.2.2.2.2.2.2 = 0
  · rw [if_pos hz, decide_eq_true]
    have h4 : ¬ (0 < j ∨ 4 ≤ q) := fun h => T2 h hz
    omega
  · rw [if_neg hz]
theorem IpBack : mantletlaw04_IpBack.Pure := by
  intro p s d z1 z2 t i l m y hp hs hd _ _ ht hi _ _ hb0 _ _ hb1 hy
  obtain ⟨p0, p1⟩ := wf_u8 hp
  obtain ⟨s0, s1⟩ := wf_u32 hs
  obtain ⟨d0, d1⟩ := wf_u32 hd
  obtain ⟨t0, t1⟩ := wf_u8 ht
  obtain ⟨i0, i1⟩ := wf_u16 hi
  obtain ⟨y0, y1⟩ := wf_u8 hy
  have hb := byte_of hb0
  have hc := byte_of hb1
  refine ⟨3001, ?_⟩
  have hbuild : ∀ x : List Int, x.length ≤ 1000 → ip_Build.f 3001 p s d z1 z2 t i x = some (buildL p s d t i x, 0) := by
    intro x hx
    have h := build_eq z1 z2 x 2921 p0 p1 s0 s1 d0 d1 t0 t1 i0 i1 (by omega)
    unfold buildV at h
    rw [if_neg (by omega)] at h
    exact h
  have key := fun (x q : List Int) (hx : x.length ≤ 1000) (hq : q.length ≤ 400) (bx : Byte x) (bq : Byte q) => ip_main z1 z2 x q p0 p1 s0 s1 d0 d1 t0 t1 i0 i1 y0 y1 hx hq bx bq
  unfold mantletlaw04_IpBack.f
  by_cases h1 : (l.length : Int) > 1000
  · have hl : (l.take 1000).length ≤ 1000 := by rw [List.length_take]; omega
    rw [if_pos h1, if_pos (by omega)]
    by_cases h2 : (m.length : Int) > 400
    · have hm : (m.take 400).length ≤ 400 := by rw [List.length_take]; omega
      rw [if_pos h2, if_pos (by omega), hbuild _ hl, Option.bind_some]
      dsimp only
      rw [if_pos rfl]
      exact key _ _ hl hm (byte_take hb _) (byte_take hc _)
    · rw [if_neg h2, hbuild _ hl, Option.bind_some]
      dsimp only
      rw [if_pos rfl, ipb1]
      exact key _ _ hl (by omega) (byte_take hb _) hc
  · rw [if_neg h1]
    by_cases h2 : (m.length : Int) > 400
    · have hm : (m.take 400).length ≤ 400 := by rw [List.length_take]; omega
      rw [if_pos h2, if_pos (by omega), hbuild _ (by omega), Option.bind_some]
      dsimp only
      rw [if_pos rfl, ipb2]
      exact key _ _ (by omega) hm hb (byte_take hc _)
    · rw [if_neg h2, hbuild _ (by omega), Option.bind_some]
      dsimp only
      rw [if_pos rfl, ipb3]
      exact key _ _ (by omega) (by omega) hb hc
end Go.Proofs.Ytofjgdbiieanjaa.Pure
