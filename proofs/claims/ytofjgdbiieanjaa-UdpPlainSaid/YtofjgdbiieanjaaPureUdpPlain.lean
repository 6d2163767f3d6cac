/-
  mantletlaw06.UdpPlain: without a checksum everything that is long enough is accepted.
  No condition: any addresses, ports and bytes.
-/
import Derived.Test.YtofjgdbiieanjaaBackUdpPlain
import Derived.Test.YtofjgdbiieanjaaNetUdpA
import Derived.Test.YtofjgdbiieanjaaNetUdp
namespace Go.Proofs.Ytofjgdbiieanjaa.Pure
open Go.RowKit Go.Proofs.Ytofjgdbiieanjaa.All Go.Proofs.Ytofjgdbiieanjaa.Ext Go.Proofs.Ytofjgdbiieanjaa.Bits Go.Proofs.YtofjgdbiieanjaaW.PrintWords Go.Proofs.YtofjgdbiieanjaaW.PrintLast Go.Proofs.Ytofjgdbiieanjaa.NetField Go.Proofs.Ytofjgdbiieanjaa.NetRef Go.Proofs.Ytofjgdbiieanjaa.NetUdp
theorem rd_app8 {l m : List Int} {i : Nat} (h : i < l.length) : rd (l ++ m) (i : Int) = rd l (i : Int) := by
  unfold rd
  rw [Int.toNat_natCast, List.getD_eq_getElem?_getD, List.getD_eq_getElem?_getD, List.getElem?_append_left h]
/-- A word of the first bytes. -/
theorem word_head {h m : List Int} (hb : Byte h) {i : Nat} (k : Nat) (hi : i + 1 < h.length) (hl : (h ++ m).length ≤ 10000) : udp_word.f (k + 11) (h ++ m) (i : Int) = some (two h i) := by
  have hm : (h ++ m).length = h.length + m.length := List.length_append
  have e : cutL (h ++ m) i 2 = cutL h i 2 := by
    unfold cutL
    rw [List.take_append_of_le_length (by omega)]
  have h1 := word_eq hb k hi (by omega)
  unfold udp_word.f field_Num.f at h1 ⊢
  rw [if_neg (by omega), if_neg (by omega), if_neg (by omega), w64 (by omega) (by omega), decide_eq_false (by omega)] at h1 ⊢
  simp only [field_Num.j0] at h1 ⊢
  rw [if_neg (by decide), if_pos (by omega), w64 (by omega) (by omega), if_pos (by omega), if_pos (by omega), Option.bind_some, show ((i : Int) + 2).toNat = i + 2 by omega, Int.toNat_natCast] at h1 ⊢
  unfold cutL at e
  rw [e]
  exact h1
theorem plain_parse {s d : Int} {h m : List Int} (hb : Byte h) (h8 : h.length = 8) (hz : two h 6 = 0) (hl : (h ++ m).length ≤ 10000) (k : Nat) (n0 : 8 ≤ two h 4) (n1 : two h 4 ≤ (h ++ m).length) :
    udp_Parse.f (k + 50) s d (h ++ m) = some (two h 0, two h 2, 0) := by
  have hm : (h ++ m).length = h.length + m.length := List.length_append
  have w0 := word_head (m := m) hb (i := 0) (k + 38) (by omega) hl
  have w2 := word_head (m := m) hb (i := 2) (k + 38) (by omega) hl
  have w4 := word_head (m := m) hb (i := 4) (k + 39) (by omega) hl
  have w6 := word_head (m := m) hb (i := 6) (k + 39) (by omega) hl
  rw [show ((0 : Nat) : Int) = 0 from rfl] at w0
  rw [show ((2 : Nat) : Int) = 2 from rfl] at w2
  rw [show ((4 : Nat) : Int) = 4 from rfl] at w4
  rw [show ((6 : Nat) : Int) = 6 from rfl] at w6
  unfold udp_Parse.f
  rw [if_neg (by omega), w4, Option.bind_some, w64 (n := two h 4) (by omega) (by omega), if_neg (by omega), if_neg (by omega), w6, Option.bind_some, if_pos hz]
  simp only [udp_Parse.j0]
  rw [if_neg (by decide), w0, Option.bind_some, w2, Option.bind_some]
theorem plain_short {s d : Int} {h m : List Int} (hb : Byte h) (h8 : h.length = 8) (hl : (h ++ m).length ≤ 10000) (k : Nat) (n0 : two h 4 < 8) :
    udp_Parse.f (k + 50) s d (h ++ m) = some (0, 0, 6) := by
  have hm : (h ++ m).length = h.length + m.length := List.length_append
  have t4 := two_range hb (i := 4) (by omega)
  have w4 := word_head (m := m) hb (i := 4) (k + 39) (by omega) hl
  rw [show ((4 : Nat) : Int) = 4 from rfl] at w4
  unfold udp_Parse.f
  rw [if_neg (by omega), w4, Option.bind_some, w64 (n := two h 4) (by omega) (by omega), if_pos (by omega)]
theorem UdpPlain : mantletlaw06_UdpPlain.Pure := by
  intro s d f t l _ _ hf ht _ _ _
  obtain ⟨f0, f1⟩ := wf_u16 hf
  obtain ⟨t0, t1⟩ := wf_u16 ht
  have hl := short_length l
  refine ⟨2000, ?_⟩
  unfold mantletlaw06_UdpPlain.f
  rw [short_eq, Option.bind_some, Option.bind_some]
  generalize shortL l = b at *
  have hw := awake_from 1920
  obtain ⟨n, hn⟩ : ∃ n, n = 8 + (b.length : Int) := ⟨_, rfl⟩
  rw [w64 (n := 8 + (b.length : Int)) (by omega) (by omega), ← hn, if_pos (by simp; omega), Option.bind_some]
  obtain ⟨h, hh⟩ : ∃ h, h = [f / 256 % 256, f % 256, t / 256 % 256, t % 256, n / 256 % 256, n % 256, 0, 0] := ⟨_, rfl⟩
  have hB : Byte h := by
    rw [hh]
    iterate 8 refine byte_cons (by omega) ?_
    exact byte_nil
  have h8 : h.length = 8 := by rw [hh]; rfl
  have e0 : two h 0 = f := by rw [hh]; show 256 * (f / 256 % 256) + f % 256 = f; omega
  have e2 : two h 2 = t := by rw [hh]; show 256 * (t / 256 % 256) + t % 256 = t; omega
  have e4 : two h 4 = n := by rw [hh]; show 256 * (n / 256 % 256) + n % 256 = n; omega
  have e6 : two h 6 = 0 := by rw [hh]; rfl
  have hm : (h ++ b).length = 8 + b.length := by rw [List.length_append, h8]
  obtain ⟨g, hg⟩ : ∃ g, g = [f / 256 % 256, f % 256, t / 256 % 256, t % 256, 0, 7, 0, 0] := ⟨_, rfl⟩
  have gB : Byte g := by
    rw [hg]
    iterate 8 refine byte_cons (by omega) ?_
    exact byte_nil
  have g8 : g.length = 8 := by rw [hg]; rfl
  have g4 : two g 4 = 7 := by rw [hg]; rfl
  have es : ((h ++ b).set (4 : Int).toNat 0).set (5 : Int).toNat 7 = g ++ b := by rw [hh, hg]; rfl
  rw [← hh, plain_parse hB h8 e6 (by omega) 1950 (by omega) (by omega), Option.bind_some, if_pos (by omega), if_pos (by omega), es, plain_short gB g8 (by rw [List.length_append]; omega) 1950 (by omega), Option.bind_some, hw, Option.bind_some, if_pos rfl]
  dsimp only
  rw [e0, e2, if_pos rfl, if_pos rfl, if_pos rfl]
  rfl
end Go.Proofs.Ytofjgdbiieanjaa.Pure
