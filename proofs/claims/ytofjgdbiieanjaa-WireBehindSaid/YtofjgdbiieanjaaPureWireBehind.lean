/-
  mantletlaw08.WireBehind: bytes after the end of a packet are ignored, up to the size limit.
-/
import Derived.Test.YtofjgdbiieanjaaAllx68
import Derived.Test.YtofjgdbiieanjaaNetWireA
import Derived.Test.YtofjgdbiieanjaaNetWire
namespace Go.Proofs.Ytofjgdbiieanjaa.Pure
open Go.RowKit Go.Proofs.Ytofjgdbiieanjaa.All Go.Proofs.Ytofjgdbiieanjaa.Ext Go.Proofs.Ytofjgdbiieanjaa.Bits Go.Proofs.YtofjgdbiieanjaaW.PrintWords Go.Proofs.YtofjgdbiieanjaaW.PrintLast Go.Proofs.Ytofjgdbiieanjaa.NetRef Go.Proofs.Ytofjgdbiieanjaa.NetWire Go.Proofs.Ytofjgdbiieanjaa.NetSum
theorem rd_ahead {l m : List Int} {i : Nat} (h : i < l.length) : rd (l ++ m) (i : Int) = rd l (i : Int) := by
  unfold rd
  rw [Int.toNat_natCast, List.getD_eq_getElem?_getD, List.getD_eq_getElem?_getD, List.getElem?_append_left h]
theorem two_ahead {l m : List Int} {i : Nat} (h : i + 1 < l.length) : two (l ++ m) i = two l i := by
  unfold two
  rw [rd_ahead (by omega), rd_ahead h]
/-- A packet that is well says the same with bytes behind it. -/
theorem ip_behind (l m : List Int) (hz : (NetIp.parseV l).2.2.2.2.2.2.2.2 = 0) (hm : (l ++ m).length ≤ 1500) : NetIp.parseV (l ++ m) = NetIp.parseV l := by
  have hno : ∀ e : Int, (NetIp.no e).2.2.2.2.2.2.2.2 = e := fun _ => rfl
  have hlm : (l ++ m).length = l.length + m.length := List.length_append
  unfold NetIp.parseV at *
  by_cases h1 : l.length > 1500
  · rw [if_pos h1, hno] at hz; omega
  rw [if_neg h1] at *
  by_cases h2 : l.length < 20
  · rw [if_pos h2, hno] at hz; omega
  rw [if_neg h2] at *
  by_cases h3 : rd l 0 / 16 ≠ 4
  · rw [if_pos h3, hno] at hz; omega
  rw [if_neg h3] at *
  by_cases h4 : 4 * (rd l 0 % 16) < 20
  · rw [if_pos h4, hno] at hz; omega
  rw [if_neg h4] at *
  by_cases h5 : (l.length : Int) < 4 * (rd l 0 % 16) ∨ two l 2 < 4 * (rd l 0 % 16) ∨ (l.length : Int) < two l 2
  · rw [if_pos h5, hno] at hz; omega
  rw [if_neg h5] at *
  by_cases h6 : F (WL 0 (l.take (4 * (rd l 0 % 16)).toNat)) ≠ 65535
  · rw [if_pos h6, hno] at hz; omega
  rw [if_neg h6] at *
  by_cases h7 : two l 6 % 16384 ≠ 0
  · rw [if_pos h7, hno] at hz; omega
  rw [if_neg h7] at *
  have r0 : rd (l ++ m) 0 = rd l 0 := rd_ahead (i := 0) (by omega)
  have r8 : rd (l ++ m) 8 = rd l 8 := rd_ahead (i := 8) (by omega)
  have r9 : rd (l ++ m) 9 = rd l 9 := rd_ahead (i := 9) (by omega)
  have t2 : two (l ++ m) 2 = two l 2 := two_ahead (by omega)
  have t4 : two (l ++ m) 4 = two l 4 := two_ahead (by omega)
  have t6 : two (l ++ m) 6 = two l 6 := two_ahead (by omega)
  have f12 : NetIp.four (l ++ m) 12 = NetIp.four l 12 := by unfold NetIp.four; rw [two_ahead (by omega), two_ahead (by omega)]
  have f16 : NetIp.four (l ++ m) 16 = NetIp.four l 16 := by unfold NetIp.four; rw [two_ahead (by omega), two_ahead (by omega)]
  have e1 : (l ++ m).take (4 * (rd l 0 % 16)).toNat = l.take (4 * (rd l 0 % 16)).toNat := List.take_append_of_le_length (by omega)
  have e2 : (l ++ m).take (two l 2).toNat = l.take (two l 2).toNat := List.take_append_of_le_length (by omega)
  rw [r0, r8, r9, t2, t4, t6, f12, f16, e1, e2, if_neg (by omega), if_neg (by omega), if_neg h3, if_neg h4, if_neg (by omega), if_neg h6, if_neg h7]
theorem wire_ok {o : NetIp.Out} (h : (wireV o).2.2.2.2.2.2.2 = 0) : o.2.2.2.2.2.2.2.2 = 0 := by
  unfold wireV at h
  by_cases he : o.2.2.2.2.2.2.2.2 = 0
  · exact he
  · rw [if_neg he] at h; exact h
theorem WireBehind : mantletlaw08_WireBehind.Pure := by
  intro l m _ _ hb0 _ _ hb1
  have hb := short_byte (byte_of hb0)
  have hl := short_length l
  have hc := short_byte (byte_of hb1)
  have hm := short_length m
  refine ⟨5001, ?_⟩
  unfold mantletlaw08_WireBehind.f
  rw [short_eq, Option.bind_some, short_eq]
  generalize shortL l = a at *
  generalize shortL m = b at *
  have h1 := wire_eq a (4951 - a.length) hb
  rw [show 4951 - a.length + 50 + a.length = 5001 by omega] at h1
  have h2 := wire_eq (a ++ b) (4950 - (a ++ b).length) (byte_app hb hc)
  rw [show 4950 - (a ++ b).length + 50 + (a ++ b).length = 5000 by rw [List.length_append]; omega] at h2
  have h3 := awake_from 4920
  have hab : (a ++ b).length = a.length + b.length := List.length_append
  rw [h1, Option.bind_some, Option.bind_some, if_pos (by rw [List.length_nil]; omega), Option.bind_some, Option.bind_some, List.nil_append, if_pos (by omega), Option.bind_some]
  by_cases hz : (wireV (NetIp.parseV a)).2.2.2.2.2.2.2 = 0
  · rw [if_pos hz]
    by_cases hn : (a ++ b).length > 1500
    · rw [decide_eq_true (by omega)]
      simp only [mantletlaw08_WireBehind.j0]
      rw [if_pos trivial, h3, Option.bind_some]
    · have he := ip_behind a b (wire_ok hz) (by omega)
      rw [decide_eq_false (by omega)]
      simp only [mantletlaw08_WireBehind.j0]
      rw [if_neg (by decide), h2, he, Option.bind_some, h3, Option.bind_some, if_pos rfl, if_pos hz]
      simp only [beq_self_eq_true, Bool.and_self]
  · rw [if_neg hz]
    simp only [mantletlaw08_WireBehind.j0]
    rw [if_pos trivial, h3, Option.bind_some]
end Go.Proofs.Ytofjgdbiieanjaa.Pure
