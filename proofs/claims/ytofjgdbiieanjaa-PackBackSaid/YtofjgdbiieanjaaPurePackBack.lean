/-
  mantletlaw09.PackBack: a valid packet is parsed from its bytes; every parsed packet is valid.
  No condition: any packet, any bytes.
-/
import Derived.Test.YtofjgdbiieanjaaAllx77
import Derived.Test.YtofjgdbiieanjaaNetPackA
import Derived.Test.YtofjgdbiieanjaaNetPackW
namespace Go.Proofs.Ytofjgdbiieanjaa.Pure
open Go.RowKit Go.Proofs.Ytofjgdbiieanjaa.All Go.Proofs.Ytofjgdbiieanjaa.Ext Go.Proofs.Ytofjgdbiieanjaa.Bits Go.Proofs.YtofjgdbiieanjaaW.PrintWords Go.Proofs.YtofjgdbiieanjaaW.PrintLast Go.Proofs.Ytofjgdbiieanjaa.NetRef Go.Proofs.Ytofjgdbiieanjaa.NetWire Go.Proofs.Ytofjgdbiieanjaa.NetPack
theorem pack_of {a s d x y f k : Int} {b : List Int} (h : Fields a s d x y f k) (n : Nat) (hb : Byte b) (hl : b.length ≤ 1600) (hn : 2000 ≤ n) : pack_Build.f n a s d x y f k b = some (packV a s d x y f k b) := by
  have h1 := pack_eq h (n - 80 - b.length) hb (by omega)
  rwa [show n - 80 - b.length + 80 + b.length = n by omega] at h1
theorem wire_of (l : List Int) (n : Nat) (hb : Byte l) (hl : l.length ≤ 1600) (hn : 2000 ≤ n) : wire_Parse.f n l = some (wireV (NetIp.parseV l)) := by
  have h1 := wire_eq l (n - 50 - l.length) hb
  rwa [show n - 50 - l.length + 50 + l.length = n by omega] at h1
theorem pack_j0 (c : List Int) (hc0 : Byte c) : mantletlaw09_PackBack.j0 3001 c = some true := by
  have hc := short_byte hc0
  have hl := short_length c
  have hw := awake_from 2920
  simp only [mantletlaw09_PackBack.j0]
  rw [short_eq, Option.bind_some, wire_of _ _ hc hl (by omega), Option.bind_some]
  by_cases hz : (wireV (NetIp.parseV (shortL c))).2.2.2.2.2.2.2 = 0
  · obtain ⟨hF, hg⟩ := came _ hc hz
    rw [if_pos hz]
    generalize wireV (NetIp.parseV (shortL c)) = q at *
    have hp := pack_of hF 3000 byte_nil (Nat.zero_le _) (by omega)
    have hk := (bears_ok (b := []) hF hg byte_nil).2.1 (by simp)
    have h2 : (packV q.1 q.2.1 q.2.2.1 q.2.2.2.1 q.2.2.2.2.1 q.2.2.2.2.2.1 q.2.2.2.2.2.2.1 []).2 = 0 := by
      have hr := ((bears_ok (b := []) hF hg byte_nil).1 hk).2
      unfold packV
      rw [if_pos hg, if_pos hk]
      unfold NetIp.buildV
      rw [if_neg (by omega)]
    obtain ⟨pb, pl, pw⟩ := packed hF byte_nil h2
    rw [hp, Option.bind_some, wire_of _ _ pb (by omega) (by omega), pw, Option.bind_some, hw, Option.bind_some, if_pos rfl, if_pos h2, if_pos rfl]
    simp only [beq_self_eq_true, Bool.and_self]
  · rw [if_neg hz, hw, Option.bind_some]
theorem PackBack : mantletlaw09_PackBack.Pure := by
  intro a s d x y f k l c ha hs hd hx hy hf hk _ _ hb0 _ _ hc0
  obtain ⟨a0, a1⟩ := wf_u8 ha
  obtain ⟨s0, s1⟩ := wf_u32 hs
  obtain ⟨d0, d1⟩ := wf_u32 hd
  obtain ⟨x0, x1⟩ := wf_u16 hx
  obtain ⟨y0, y1⟩ := wf_u16 hy
  obtain ⟨f0, f1⟩ := wf_u8 hf
  obtain ⟨k0, k1⟩ := wf_u8 hk
  have hF : Fields a s d x y f k := ⟨a0, a1, s0, s1, d0, d1, x0, x1, y0, y1, f0, f1, k0, k1⟩
  have hb := short_byte (byte_of hb0)
  have hl := short_length l
  have hj := pack_j0 c (byte_of hc0)
  refine ⟨3001, ?_⟩
  unfold mantletlaw09_PackBack.f
  rw [short_eq, Option.bind_some, pack_of hF _ hb hl (by omega), Option.bind_some]
  by_cases hz : (packV a s d x y f k (shortL l)).2 = 0
  · obtain ⟨pb, pl, pw⟩ := packed hF hb hz
    rw [if_pos hz, wire_of _ _ pb (by omega) (by omega), pw, Option.bind_some, if_pos rfl, if_neg (by simp), if_neg (by omega)]
    exact hj
  · rw [if_neg hz, good_eq f0 f1, Option.bind_some]
    by_cases hg : goodB a x y f k = true
    · have hk := bears_ok hF hg hb
      rw [if_pos hg, if_neg ?_]
      · exact hj
      · intro hn
        apply hz
        have hsl : (shortL l).length ≤ 1460 := by
          unfold shortL
          rw [if_neg (by omega)]
          omega
        have he := hk.2.1 hsl
        have hr := (hk.1 he).2
        unfold packV
        rw [if_pos hg, if_pos he]
        unfold NetIp.buildV
        rw [if_neg (by omega)]
    · rw [if_neg hg]
      exact hj
end Go.Proofs.Ytofjgdbiieanjaa.Pure
