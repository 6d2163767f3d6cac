import Derived.Test.YtofjgdbiieanjaaAllx62
import Derived.Test.YtofjgdbiieanjaaNetIp
import Derived.Test.YtofjgdbiieanjaaNetTcp
import Derived.Test.YtofjgdbiieanjaaNetUdp
import Derived.Test.YtofjgdbiieanjaaNetIcmp
namespace Go.Proofs.Ytofjgdbiieanjaa.NetWire
open Go.RowKit Go.Proofs.Ytofjgdbiieanjaa.All Go.Proofs.Ytofjgdbiieanjaa.Ext Go.Proofs.Ytofjgdbiieanjaa.Bits Go.Proofs.YtofjgdbiieanjaaW.PrintWords Go.Proofs.YtofjgdbiieanjaaW.PrintLast Go.Proofs.Ytofjgdbiieanjaa.NetField Go.Proofs.Ytofjgdbiieanjaa.NetSum Go.Proofs.Ytofjgdbiieanjaa.NetRef
open Go.Proofs.Ytofjgdbiieanjaa.NetIp (Out no four four_range)
/-! What wire comes to. -/
abbrev WOut := Int × Int × Int × Int × Int × Int × Int × Int
abbrev T (o : Out) : Int × Int × Int × Int := NetTcp.parseV o.2.1 o.2.2.1 o.2.2.2.2.2.2.2.1
abbrev U (o : Out) : Int × Int × Int := NetUdp.parseV o.2.1 o.2.2.1 o.2.2.2.2.2.2.2.1
abbrev I (o : Out) : Int × Int × Int := NetIcmp.parseV o.2.2.2.2.2.2.2.1
/-- What counts of a packet, or what is wrong, by its header. -/
def wireV (o : Out) : WOut :=
  if o.2.2.2.2.2.2.2.2 = 0 then
    (if o.1 = 6 then (if (T o).2.2.2 = 0 then (o.1, o.2.1, o.2.2.1, (T o).1, (T o).2.1, (T o).2.2.1, 0, 0) else (0, 0, 0, 0, 0, 0, 0, (T o).2.2.2))
    else if o.1 = 17 then (if (U o).2.2 = 0 then (o.1, o.2.1, o.2.2.1, (U o).1, (U o).2.1, 0, 0, 0) else (0, 0, 0, 0, 0, 0, 0, (U o).2.2))
    else if o.1 = 1 then (if (I o).2.2 = 0 then (o.1, o.2.1, o.2.2.1, (I o).2.1, (I o).2.1, 0, (I o).1, 0) else (0, 0, 0, 0, 0, 0, 0, (I o).2.2))
    else (0, 0, 0, 0, 0, 0, 0, 9))
  else (0, 0, 0, 0, 0, 0, 0, o.2.2.2.2.2.2.2.2)
/-- A header's addresses, and what it bears. -/
theorem ip_range (l : List Int) (hb : Byte l) : ((0 ≤ (NetIp.parseV l).2.1 ∧ (NetIp.parseV l).2.1 < 4294967296) ∧ (0 ≤ (NetIp.parseV l).2.2.1 ∧ (NetIp.parseV l).2.2.1 < 4294967296)) ∧
    Byte (NetIp.parseV l).2.2.2.2.2.2.2.1 ∧ (NetIp.parseV l).2.2.2.2.2.2.2.1.length ≤ 1500 ∧ (NetIp.parseV l).2.2.2.2.2.2.2.1.length ≤ l.length := by
  have hno : ∀ e : Int, ((0 ≤ (no e).2.1 ∧ (no e).2.1 < 4294967296) ∧ (0 ≤ (no e).2.2.1 ∧ (no e).2.2.1 < 4294967296)) ∧ Byte (no e).2.2.2.2.2.2.2.1 ∧ (no e).2.2.2.2.2.2.2.1.length ≤ 1500 ∧ (no e).2.2.2.2.2.2.2.1.length ≤ l.length := by
    intro e
    refine ⟨⟨⟨Int.le_refl 0, ?_⟩, ⟨Int.le_refl 0, ?_⟩⟩, byte_nil, Nat.zero_le _, Nat.zero_le _⟩ <;> (show (0 : Int) < 4294967296; omega)
  unfold NetIp.parseV
  by_cases h1 : l.length > 1500
  · rw [if_pos h1]; exact hno _
  rw [if_neg h1]
  by_cases h2 : l.length < 20
  · rw [if_pos h2]; exact hno _
  rw [if_neg h2]
  by_cases h3 : rd l 0 / 16 ≠ 4
  · rw [if_pos h3]; exact hno _
  rw [if_neg h3]
  by_cases h4 : 4 * (rd l 0 % 16) < 20
  · rw [if_pos h4]; exact hno _
  rw [if_neg h4]
  by_cases h5 : (l.length : Int) < 4 * (rd l 0 % 16) ∨ two l 2 < 4 * (rd l 0 % 16) ∨ (l.length : Int) < two l 2
  · rw [if_pos h5]; exact hno _
  rw [if_neg h5]
  by_cases h6 : F (WL 0 (l.take (4 * (rd l 0 % 16)).toNat)) ≠ 65535
  · rw [if_pos h6]; exact hno _
  rw [if_neg h6]
  by_cases h7 : two l 6 % 16384 ≠ 0
  · rw [if_pos h7]; exact hno _
  rw [if_neg h7]
  have hq : ((l.take (two l 2).toNat).drop (4 * (rd l 0 % 16)).toNat).length ≤ l.length := by rw [List.length_drop, List.length_take]; omega
  exact ⟨⟨four_range hb (by omega), four_range hb (by omega)⟩, byte_drop (byte_take hb _) _, by show ((l.take (two l 2).toNat).drop (4 * (rd l 0 % 16)).toNat).length ≤ 1500; omega, hq⟩
theorem wire_eq (l : List Int) (k : Nat) (hb : Byte l) : wire_Parse.f (k + 50 + l.length) l = some (wireV (NetIp.parseV l)) := by
  have h0 := NetIp.parse_eq l (k + 30) hb
  rw [show k + 30 + 20 + l.length = k + 50 + l.length by omega] at h0
  obtain ⟨⟨⟨s0, s1⟩, ⟨d0, d1⟩⟩, qb, ql, qn⟩ := ip_range l hb
  unfold wire_Parse.f wireV
  rw [h0, Option.bind_some]
  generalize NetIp.parseV l = o at *
  have ht := NetTcp.parse_eq o.2.2.2.2.2.2.2.1 (k + 10 + l.length - o.2.2.2.2.2.2.2.1.length) s0 s1 d0 d1 qb (by omega)
  have hu := NetUdp.parse_eq o.2.2.2.2.2.2.2.1 (k + l.length - o.2.2.2.2.2.2.2.1.length) s0 s1 d0 d1 qb (by omega)
  have hi := NetIcmp.parse_eq o.2.2.2.2.2.2.2.1 (k + 39 + l.length - o.2.2.2.2.2.2.2.1.length) qb (by omega)
  rw [show k + 10 + l.length - o.2.2.2.2.2.2.2.1.length + 40 + o.2.2.2.2.2.2.2.1.length = k + 50 + l.length by omega] at ht
  rw [show k + l.length - o.2.2.2.2.2.2.2.1.length + 50 + o.2.2.2.2.2.2.2.1.length = k + 50 + l.length by omega] at hu
  rw [show k + 39 + l.length - o.2.2.2.2.2.2.2.1.length + 11 + o.2.2.2.2.2.2.2.1.length = k + 50 + l.length by omega] at hi
  by_cases he : o.2.2.2.2.2.2.2.2 = 0
  · rw [if_pos he, if_pos he]
    by_cases h6 : o.1 = 6
    · rw [if_pos h6, if_pos h6, ht, Option.bind_some]
      by_cases hz : (T o).2.2.2 = 0
      · rw [if_pos hz, if_pos hz]
      · rw [if_neg hz, if_neg hz]
    · rw [if_neg h6, if_neg h6]
      by_cases h17 : o.1 = 17
      · rw [if_pos h17, if_pos h17, hu, Option.bind_some]
        by_cases hz : (U o).2.2 = 0
        · rw [if_pos hz, if_pos hz]
        · rw [if_neg hz, if_neg hz]
      · rw [if_neg h17, if_neg h17]
        by_cases h1 : o.1 = 1
        · rw [if_pos h1, if_pos h1, hi, Option.bind_some]
          by_cases hz : (I o).2.2 = 0
          · rw [if_pos hz, if_pos hz]
          · rw [if_neg hz, if_neg hz]
        · rw [if_neg h1, if_neg h1, if_neg (by omega)]
  · rw [if_neg he, if_neg he]
end Go.Proofs.Ytofjgdbiieanjaa.NetWire
