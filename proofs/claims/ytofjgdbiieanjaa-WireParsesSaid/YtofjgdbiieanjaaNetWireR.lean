import Derived.Test.YtofjgdbiieanjaaAllx64
import Derived.Test.YtofjgdbiieanjaaNetWire
import Derived.Test.YtofjgdbiieanjaaNetIpR
namespace Go.Proofs.Ytofjgdbiieanjaa.NetWire
open Go.RowKit Go.Proofs.Ytofjgdbiieanjaa.All Go.Proofs.Ytofjgdbiieanjaa.Ext Go.Proofs.Ytofjgdbiieanjaa.Bits Go.Proofs.YtofjgdbiieanjaaW.PrintWords Go.Proofs.YtofjgdbiieanjaaW.PrintLast Go.Proofs.Ytofjgdbiieanjaa.NetRef
theorem refWire_eq (l : List Int) (k : Nat) (hb : Byte l) : mantletref08_Parse.f (k + 50 + l.length) l = some (wireV (NetIp.parseV l)) := by
  have h0 := NetIp.refParse_eq l (k + 30) hb
  rw [show k + 30 + 20 + l.length = k + 50 + l.length by omega] at h0
  obtain ⟨⟨⟨s0, s1⟩, ⟨d0, d1⟩⟩, qb, ql, qn⟩ := ip_range l hb
  unfold mantletref08_Parse.f wireV
  rw [h0, Option.bind_some]
  generalize NetIp.parseV l = o at *
  have ht := NetTcp.refParse_eq o.2.2.2.2.2.2.2.1 (k + 10 + l.length - o.2.2.2.2.2.2.2.1.length) s0 s1 d0 d1 qb (by omega)
  have hu := NetUdp.refParse_eq o.2.2.2.2.2.2.2.1 (k + l.length - o.2.2.2.2.2.2.2.1.length) s0 s1 d0 d1 qb (by omega)
  have hi := NetIcmp.refParse_eq o.2.2.2.2.2.2.2.1 (k + 49 + l.length - o.2.2.2.2.2.2.2.1.length) qb (by omega)
  rw [show k + 10 + l.length - o.2.2.2.2.2.2.2.1.length + 40 + o.2.2.2.2.2.2.2.1.length = k + 50 + l.length by omega] at ht
  rw [show k + l.length - o.2.2.2.2.2.2.2.1.length + 50 + o.2.2.2.2.2.2.2.1.length = k + 50 + l.length by omega] at hu
  rw [show k + 49 + l.length - o.2.2.2.2.2.2.2.1.length + 1 + o.2.2.2.2.2.2.2.1.length = k + 50 + l.length by omega] at hi
  by_cases he : o.2.2.2.2.2.2.2.2 = 0
  · rw [if_pos he, if_pos he]
    by_cases h6 : o.1 = 6
    · rw [if_pos h6, if_pos h6, ht, Option.bind_some]
      by_cases hz : (T o).2.2.2 = 0
      · rw [if_pos hz, if_pos hz]
      · rw [if_neg hz, if_neg hz]
    · rw [if_neg h6, if_neg h6]
      by_cases h17 : o.1 = 17
      · rw [if_pos h17, if_pos h17, hu, Option.bind_some]
        by_cases hz : (U o).2.2 = 0
        · rw [if_pos hz, if_pos hz]
        · rw [if_neg hz, if_neg hz]
      · rw [if_neg h17, if_neg h17]
        by_cases h1 : o.1 = 1
        · rw [if_pos h1, if_pos h1, hi, Option.bind_some]
          by_cases hz : (I o).2.2 = 0
          · rw [if_pos hz, if_pos hz]
          · rw [if_neg hz, if_neg hz]
        · rw [if_neg h1, if_neg h1, if_neg (by omega)]
  · rw [if_neg he, if_neg he]
end Go.Proofs.Ytofjgdbiieanjaa.NetWire
