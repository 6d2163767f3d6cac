import Derived.Test.YtofjgdbiieanjaaAllx53
import Derived.Test.YtofjgdbiieanjaaAllx54
import Derived.Test.YtofjgdbiieanjaaNetIp
namespace Go.Proofs.Ytofjgdbiieanjaa.NetIp
open Go.RowKit Go.Proofs.Ytofjgdbiieanjaa.All Go.Proofs.Ytofjgdbiieanjaa.Ext Go.Proofs.Ytofjgdbiieanjaa.Bits Go.Proofs.YtofjgdbiieanjaaW.PrintWords Go.Proofs.YtofjgdbiieanjaaW.PrintLast Go.Proofs.Ytofjgdbiieanjaa.NetField Go.Proofs.Ytofjgdbiieanjaa.NetSum Go.Proofs.Ytofjgdbiieanjaa.NetRef
/-! What ip.Parse's reference comes to. -/
theorem four_at {l : List Int} (hb : Byte l) {i : Nat} (h : i + 3 < l.length) (hi : i < 1000) : mantletref04_Four.f l (i : Int) = some (four l i) := by
  have h0 := two_range hb (show i + 1 < l.length by omega)
  have h1 := two_range hb (show (i + 2) + 1 < l.length by omega)
  have h2 := two_at hb (show i + 1 < l.length by omega) (by omega)
  have h3 := two_at hb (show (i + 2) + 1 < l.length by omega) (by omega)
  unfold mantletref04_Four.f
  rw [h2, Option.bind_some, show wrap64 ((i : Int) + 2) = ((i + 2 : Nat) : Int) by rw [w64 (by omega) (by omega)]; omega, h3, Option.bind_some, w64 (n := 65536 * two l i) (by omega) (by omega), w64 (by omega) (by omega)]
  unfold four
  congr 1
  omega
theorem refParse_j0 (l : List Int) (h a : Int) (k : Nat) (hb : Byte l) (h1 : ¬ l.length > 1500) (h2 : ¬ l.length < 20) (h5 : 20 ≤ h ∧ h ≤ l.length ∧ h ≤ a ∧ a ≤ l.length) :
    mantletref04_Parse.j0 (k + 20 + l.length) l h a false 0 0 0 0 0 0 0 = some (if F (WL 0 (l.take h.toNat)) ≠ 65535 then no 7 else if two l 6 % 16384 ≠ 0 then no 8
      else (rd l 9, four l 12, four l 16, h, a, rd l 8, two l 4, (l.take a.toNat).drop h.toNat, 0)) := by
  have t6 := two_range hb (i := 6) (by omega)
  have t4 := two_range hb (i := 4) (by omega)
  have hlt : (l.take h.toNat).length = h.toNat := by rw [List.length_take]; omega
  have hsum := ref_eq (l.take h.toNat) (s := 0) (k + 18 + l.length - h.toNat) (byte_take hb _) (by omega) (by omega) (by omega)
  rw [hlt, Int.zero_add, show k + 18 + l.length - h.toNat + 1 + h.toNat = k + 19 + l.length by omega] at hsum
  rw [show k + 20 + l.length = (k + 19 + l.length) + 1 by omega]
  simp only [mantletref04_Parse.j0]
  rw [if_neg (show ¬ (false = true) by decide), if_pos (by omega), if_pos (by omega), hsum, Option.bind_some]
  by_cases h7 : F (WL 0 (l.take h.toNat)) = 65535
  · have n6 := two_at hb (i := 6) (by omega) (by omega)
    have n4 := two_at hb (i := 4) (by omega) (by omega)
    have n12 := four_at hb (i := 12) (by omega) (by omega)
    have n16 := four_at hb (i := 16) (by omega) (by omega)
    rw [show ((6 : Nat) : Int) = 6 from rfl] at n6
    rw [show ((4 : Nat) : Int) = 4 from rfl] at n4
    rw [show ((12 : Nat) : Int) = 12 from rfl] at n12
    rw [show ((16 : Nat) : Int) = 16 from rfl] at n16
    rw [if_pos h7, if_neg (show ¬ (F (WL 0 (l.take h.toNat)) ≠ 65535) from fun h => h h7), n6, Option.bind_some, Int.tmod_eq_emod_of_nonneg t6.1]
    by_cases h8 : two l 6 % 16384 = 0
    · rw [if_pos h8, if_neg (show ¬ (two l 6 % 16384 ≠ 0) from fun h => h h8), if_pos (by omega), n12, Option.bind_some, n16, Option.bind_some, if_pos (by omega), n4, Option.bind_some, Option.bind_some, if_pos (by omega), if_pos (by omega), Option.bind_some, if_pos (by rw [List.length_drop, List.length_take, List.length_nil]; omega), wrap_u16, Int.emod_eq_of_lt (a := two l 4) (by omega) (by omega), List.nil_append]
    · rw [if_neg h8, if_pos h8]; rfl
  · rw [if_neg h7, if_pos h7]; rfl
theorem refParse_j1 (l : List Int) (h a : Int) (k : Nat) : mantletref04_Parse.j0 (k + 1) l h a true 0 0 0 0 0 0 0 = some (no 4) := by
  simp only [mantletref04_Parse.j0]
  rw [if_pos trivial]; rfl
theorem refParse_eq (l : List Int) (k : Nat) (hb : Byte l) : mantletref04_Parse.f (k + 20 + l.length) l = some (parseV l) := by
  unfold mantletref04_Parse.f parseV
  by_cases h1 : l.length > 1500
  · rw [if_pos (by omega), if_pos h1]; rfl
  · rw [if_neg (by omega), if_neg h1]
    by_cases h2 : l.length < 20
    · rw [if_pos (by omega), if_pos h2]; rfl
    · rw [if_neg (by omega), if_neg h2]
      have b0 := rd_byte hb (i := 0) (by omega)
      rw [show ((0 : Nat) : Int) = 0 from rfl] at b0
      have e16 : Int.tdiv (rd l 0) 16 % 256 = rd l 0 / 16 := by rw [Int.tdiv_eq_ediv_of_nonneg b0.1]; omega
      have ew : wrap64 (4 * (wrap64 (Int.tmod (rd l 0) 16))) = 4 * (rd l 0 % 16) := by rw [Int.tmod_eq_emod_of_nonneg b0.1, w64 (n := rd l 0 % 16) (by omega) (by omega), w64 (by omega) (by omega)]
      rw [if_pos (by omega), e16, ew]
      by_cases h3 : rd l 0 / 16 = 4
      · rw [if_pos h3, if_neg (show ¬ (rd l 0 / 16 ≠ 4) from fun h => h h3)]
        by_cases h4 : 4 * (rd l 0 % 16) < 20
        · rw [if_pos h4, if_pos h4]; rfl
        · have n2 := two_at hb (i := 2) (by omega) (by omega)
          rw [show ((2 : Nat) : Int) = 2 from rfl] at n2
          have ej := fun (a : Int) => refParse_j1 l (4 * (rd l 0 % 16)) a (k + 19 + l.length)
          rw [show k + 19 + l.length + 1 = k + 20 + l.length by omega] at ej
          rw [if_neg h4, if_neg h4, n2, Option.bind_some]
          by_cases h5 : (l.length : Int) < 4 * (rd l 0 % 16)
          · rw [if_pos (by omega), ej, if_pos (show _ ∨ _ from .inl h5)]
          · rw [if_neg (by omega)]
            by_cases h6 : two l 2 < 4 * (rd l 0 % 16)
            · rw [if_pos h6, ej, if_pos (show _ ∨ _ from .inr (.inl h6))]
            · rw [if_neg h6]
              by_cases h7 : (l.length : Int) < two l 2
              · rw [decide_eq_true (by omega), ej, if_pos (show _ ∨ _ from .inr (.inr h7))]
              · rw [decide_eq_false (by omega), refParse_j0 l _ _ k hb h1 h2 (by omega), if_neg (show ¬ (_ ∨ _) from by omega)]
      · rw [if_neg h3, if_pos h3]; rfl
end Go.Proofs.Ytofjgdbiieanjaa.NetIp
