/-
  mantletlaw08.WireSane: an accepted packet has one of the protocols and consistent flags; a refused one yields zero values.
-/
import Derived.Test.YtofjgdbiieanjaaAllx67
import Derived.Test.YtofjgdbiieanjaaNetWireA
import Derived.Test.YtofjgdbiieanjaaNetWire
namespace Go.Proofs.Ytofjgdbiieanjaa.Pure
open Go.RowKit Go.Proofs.Ytofjgdbiieanjaa.All Go.Proofs.Ytofjgdbiieanjaa.Ext Go.Proofs.Ytofjgdbiieanjaa.Bits Go.Proofs.YtofjgdbiieanjaaW.PrintWords Go.Proofs.YtofjgdbiieanjaaW.PrintLast Go.Proofs.Ytofjgdbiieanjaa.NetRef Go.Proofs.Ytofjgdbiieanjaa.NetWire Go.Proofs.Ytofjgdbiieanjaa.NetSum
theorem sane_bits : ((List.range 256).all fun n => !(decide ((n : Int) < 64) && refSane (n : Int)) || ((Go.bits .and .u8 (Go.bits .and .u8 (n : Int) 7) (((Go.bits .and .u8 (n : Int) 7) - 1) % 256)) == 0 && !((Go.bits .and .u8 (n : Int) 22) == 0))) = true := by kernel_rfl
theorem tcp_flags (s d : Int) (l : List Int) (h : (NetTcp.parseV s d l).2.2.2 = 0) : refSane (NetTcp.parseV s d l).2.2.1 = true ∧ 0 ≤ (NetTcp.parseV s d l).2.2.1 ∧ (NetTcp.parseV s d l).2.2.1 < 64 := by
  unfold NetTcp.parseV at *
  by_cases h1 : l.length < 20
  · rw [if_pos h1] at h; simp at h
  rw [if_neg h1] at *
  by_cases h2 : 4 * (rd l 12 / 16) < 20
  · rw [if_pos h2] at h; simp at h
  rw [if_neg h2] at *
  by_cases h3 : 4 * (rd l 12 / 16) > l.length
  · rw [if_pos h3] at h; simp at h
  rw [if_neg h3] at *
  by_cases h4 : F (NetTcp.pseudoV 6 s d l.length + WL 0 l) ≠ 65535
  · rw [if_pos h4] at h; simp at h
  rw [if_neg h4] at *
  by_cases h5 : refSane (rd l 13 % 64) = true
  · rw [if_pos h5]
    exact ⟨h5, by show 0 ≤ rd l 13 % 64; omega, by show rd l 13 % 64 < 64; omega⟩
  · rw [if_neg h5] at h; simp at h
theorem icmp_kind (l : List Int) : (NetIcmp.parseV l).1 = 8 ∨ (NetIcmp.parseV l).1 = 0 := by
  unfold NetIcmp.parseV
  split
  · right; rfl
  · split
    · right; rfl
    · split
      · rename_i hk; exact hk.1
      · right; rfl
theorem WireSane : mantletlaw08_WireSane.Pure := by
  intro l _ _ hb0
  have hb := short_byte (byte_of hb0)
  have hl := short_length l
  refine ⟨2000, ?_⟩
  have h1 := wire_eq (shortL l) (1950 - (shortL l).length) hb
  rw [show 1950 - (shortL l).length + 50 + (shortL l).length = 2000 by omega] at h1
  have h3 := awake_from 1920
  unfold mantletlaw08_WireSane.f
  rw [short_eq, Option.bind_some, h1, Option.bind_some]
  generalize NetIp.parseV (shortL l) = o
  have hbad : ∀ e : Int, e ≠ 0 → ∀ (p : WOut), p = (0, 0, 0, 0, 0, 0, 0, e) → ((mantletlaw08_awake.f 2000).bind fun t1040 => (if t1040 = true then (some (p.1 == 0 && (p.2.1 == 0 && (p.2.2.1 == 0 && (p.2.2.2.1 == 0 && (p.2.2.2.2.1 == 0 && (p.2.2.2.2.2.1 == 0 && (p.2.2.2.2.2.2.1 == 0)))))))) else (some false))) = some true := by
    rintro e _ p rfl
    rw [h3, Option.bind_some, if_pos rfl]
    rfl
  unfold wireV
  by_cases he : o.2.2.2.2.2.2.2.2 = 0
  · rw [if_pos he]
    by_cases h6 : o.1 = 6
    · rw [if_pos h6]
      by_cases hz : (T o).2.2.2 = 0
      · obtain ⟨f1, f2, f3⟩ : refSane (T o).2.2.1 = true ∧ 0 ≤ (T o).2.2.1 ∧ (T o).2.2.1 < 64 := tcp_flags _ _ _ hz
        have hs := List.all_eq_true.1 sane_bits (T o).2.2.1.toNat (List.mem_range.2 (by omega))
        rw [show (((T o).2.2.1.toNat : Nat) : Int) = (T o).2.2.1 by omega] at hs
        rw [decide_eq_true f3, f1] at hs
        simp only [Bool.and_self, Bool.not_true, Bool.false_or, Bool.and_eq_true, beq_iff_eq, Bool.not_eq_true', beq_eq_false_iff_ne] at hs
        rw [if_pos hz]
        dsimp only
        rw [if_pos rfl, if_pos h6, h3, Option.bind_some, if_pos rfl, if_pos rfl, if_pos hs.1, if_neg hs.2, decide_eq_true f3]
      · rw [if_neg hz]
        dsimp only
        rw [if_neg hz]
        exact hbad _ hz (0, 0, 0, 0, 0, 0, 0, (T o).2.2.2) rfl
    · rw [if_neg h6]
      by_cases h17 : o.1 = 17
      · rw [if_pos h17]
        by_cases hz : (U o).2.2 = 0
        · rw [if_pos hz]
          dsimp only
          rw [if_pos rfl, if_neg h6, if_pos h17, h3, Option.bind_some, if_pos rfl, if_pos rfl]
          rfl
        · rw [if_neg hz]
          dsimp only
          rw [if_neg hz]
          exact hbad _ hz (0, 0, 0, 0, 0, 0, 0, (U o).2.2) rfl
      · rw [if_neg h17]
        by_cases h1 : o.1 = 1
        · rw [if_pos h1]
          by_cases hz : (I o).2.2 = 0
          · rw [if_pos hz]
            dsimp only
            rw [if_pos rfl, if_neg h6, if_neg h17, h3, Option.bind_some, if_pos rfl, if_pos h1, if_pos rfl, if_pos rfl]
            by_cases h8 : (I o).1 = 8
            · rw [if_pos h8]
            · rw [if_neg h8, (icmp_kind _).resolve_left h8]
              rfl
          · rw [if_neg hz]
            dsimp only
            rw [if_neg hz]
            exact hbad _ hz (0, 0, 0, 0, 0, 0, 0, (I o).2.2) rfl
        · rw [if_neg h1]
          dsimp only
          rw [if_neg (by omega)]
          exact hbad 9 (by omega) (0, 0, 0, 0, 0, 0, 0, 9) rfl
  · rw [if_neg he]
    dsimp only
    rw [if_neg he]
    exact hbad _ he (0, 0, 0, 0, 0, 0, 0, o.2.2.2.2.2.2.2.2) rfl
end Go.Proofs.Ytofjgdbiieanjaa.Pure
