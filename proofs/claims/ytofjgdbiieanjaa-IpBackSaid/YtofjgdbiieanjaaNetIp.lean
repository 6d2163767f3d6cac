import Derived.Test.YtofjgdbiieanjaaAllx51
import Derived.Test.YtofjgdbiieanjaaNetRef
namespace Go.Proofs.Ytofjgdbiieanjaa.NetIp
open Go.RowKit Go.Proofs.Ytofjgdbiieanjaa.All Go.Proofs.Ytofjgdbiieanjaa.Ext Go.Proofs.Ytofjgdbiieanjaa.Bits Go.Proofs.YtofjgdbiieanjaaW.PrintWords Go.Proofs.YtofjgdbiieanjaaW.PrintLast Go.Proofs.Ytofjgdbiieanjaa.NetField Go.Proofs.Ytofjgdbiieanjaa.NetSum Go.Proofs.Ytofjgdbiieanjaa.NetRef
/-! What ip and its reference come to. -/
theorem byte_all {f : Int → Bool} (h : ((List.range 256).all fun n => f (n : Int)) = true) {a : Int} (h0 : 0 ≤ a) (h1 : a < 256) : f a = true := by
  have h2 := List.all_eq_true.1 h a.toNat (List.mem_range.2 (by omega))
  rwa [show ((a.toNat : Nat) : Int) = a by omega] at h2
theorem and15_all : ((List.range 256).all fun n => Go.bits .and .u8 (n : Int) 15 == (n : Int) % 16) = true := by kernel_rfl
theorem and15 {a : Int} (h0 : 0 ≤ a) (h1 : a < 256) : Go.bits .and .u8 a 15 = a % 16 := eq_of_beq (byte_all (f := fun a => Go.bits .and .u8 a 15 == a % 16) and15_all h0 h1)
theorem and_parts {x : Int} (h0 : 0 ≤ x) (h1 : x < 9223372036854775808) : bits .and .i64 x 16383 = x % 16384 := by
  have h := bits_mask .i64 63 (by decide) (fun n a b => by rw [i64_w]; exact w64 (by omega) (by omega)) 14 (by decide) x h0 (by omega)
  simpa using h
/-- A number of four bytes. -/
def four (l : List Int) (i : Nat) : Int := 65536 * two l i + two l (i + 2)
theorem four_range {l : List Int} (hb : Byte l) {i : Nat} (h : i + 3 < l.length) : 0 ≤ four l i ∧ four l i < 4294967296 := by
  have h1 := two_range hb (show i + 1 < l.length by omega)
  have h2 := two_range hb (show (i + 2) + 1 < l.length by omega)
  unfold four; omega
theorem num_four {l : List Int} {i : Nat} (h : i + 3 < l.length) : numL 0 (cutL l i 4) = four l i := by
  have e : cutL l i 4 = [rd l (i : Int), rd l ((i + 1 : Nat) : Int), rd l ((i + 2 : Nat) : Int), rd l ((i + 3 : Nat) : Int)] := by
    unfold cutL
    have h1 := NetSum.rd_cons (l := l.take (i + 4)) (i := i) (by rw [List.length_take]; omega)
    have h2 := NetSum.rd_cons (l := l.take (i + 4)) (i := i + 1) (by rw [List.length_take]; omega)
    have h3 := NetSum.rd_cons (l := l.take (i + 4)) (i := i + 2) (by rw [List.length_take]; omega)
    have h4 := NetSum.rd_cons (l := l.take (i + 4)) (i := i + 3) (by rw [List.length_take]; omega)
    have h5 : (l.take (i + 4)).drop (i + 3 + 1) = [] := List.drop_eq_nil_of_le (by rw [List.length_take]; omega)
    rw [h5] at h4
    rw [show i + 2 + 1 = i + 3 by omega, h4] at h3
    rw [show i + 1 + 1 = i + 2 by omega, h3] at h2
    rw [h2] at h1
    rw [h1]
    have r : ∀ j : Nat, j < i + 4 → rd (l.take (i + 4)) (j : Int) = rd l (j : Int) := by
      intro j hj
      simp only [rd, Int.toNat_natCast, List.getD_eq_getElem?_getD, List.getElem?_take]
      rw [if_pos hj]
    rw [r i (by omega), r (i + 1) (by omega), r (i + 2) (by omega), r (i + 3) (by omega)]
  rw [e]
  simp only [numL, List.foldl_cons, List.foldl_nil, four, two]
  rw [show i + 2 + 1 = i + 3 by omega]
  omega
theorem inum2 {l : List Int} (hb : Byte l) {i : Nat} (k : Nat) (h : i + 1 < l.length) (hl : l.length ≤ 9223372036854775807) : ip_num.f (k + 11) l (i : Int) 2 = some (two l i) := by
  have h1 := two_range hb h
  unfold ip_num.f
  rw [num2 hb k h hl, Option.bind_some]
  dsimp only
  rw [w64 (by omega) (by omega)]
theorem inum4 {l : List Int} (hb : Byte l) {i : Nat} (k : Nat) (h : i + 3 < l.length) (hl : l.length ≤ 9223372036854775807) : ip_num.f (k + 11) l (i : Int) 4 = some (four l i) := by
  have h1 := four_range hb h
  have h2 := num_yes l i 4 k hb (by omega) (by omega) (by omega) hl
  rw [num_four h, show ((4 : Nat) : Int) = 4 from rfl] at h2
  unfold ip_num.f
  rw [h2, Option.bind_some]
  dsimp only
  rw [w64 (by omega) (by omega)]
abbrev Out := Int × Int × Int × Int × Int × Int × Int × List Int × Int
/-- Nothing, and what is wrong. -/
def no (e : Int) : Out := (0, 0, 0, 0, 0, 0, 0, [], e)
/-- What a packet says, or what is wrong. -/
def parseV (l : List Int) : Out :=
  if l.length > 1500 then no 2 else if l.length < 20 then no 4 else if rd l 0 / 16 ≠ 4 then no 5 else if 4 * (rd l 0 % 16) < 20 then no 6
  else if (l.length : Int) < 4 * (rd l 0 % 16) ∨ two l 2 < 4 * (rd l 0 % 16) ∨ (l.length : Int) < two l 2 then no 4
  else if F (WL 0 (l.take (4 * (rd l 0 % 16)).toNat)) ≠ 65535 then no 7 else if two l 6 % 16384 ≠ 0 then no 8
  else (rd l 9, four l 12, four l 16, 4 * (rd l 0 % 16), two l 2, rd l 8, two l 4, (l.take (two l 2).toNat).drop (4 * (rd l 0 % 16)).toNat, 0)
def sizeV (l : List Int) : Int × Int × Int :=
  if l.length > 1500 then (0, 0, 2) else if l.length < 20 then (0, 0, 4) else if rd l 0 / 16 ≠ 4 then (0, 0, 5) else if 4 * (rd l 0 % 16) < 20 then (0, 0, 6)
  else if (l.length : Int) < 4 * (rd l 0 % 16) ∨ two l 2 < 4 * (rd l 0 % 16) ∨ (l.length : Int) < two l 2 then (0, 0, 4) else (4 * (rd l 0 % 16), two l 2, 0)
theorem size_eq (l : List Int) (k : Nat) (hb : Byte l) : ip_size.f (k + 11) l = some (sizeV l) := by
  unfold ip_size.f sizeV
  by_cases h1 : l.length > 1500
  · rw [if_pos (by omega), if_pos h1]
  · rw [if_neg (by omega), if_neg h1]
    by_cases h2 : l.length < 20
    · rw [if_pos (by omega), if_pos h2]
    · have b0 := rd_byte hb (i := 0) (by omega)
      rw [show ((0 : Nat) : Int) = 0 from rfl] at b0
      have t2 := two_range hb (i := 2) (by omega)
      have n2 := inum2 hb (i := 2) k (by omega) (by omega)
      rw [show ((2 : Nat) : Int) = 2 from rfl] at n2
      have ew : wrap64 ((wrap64 (Go.bits .and .u8 (rd l 0) 15)) * 4) = 4 * (rd l 0 % 16) := by rw [and15 b0.1 b0.2, w64 (n := rd l 0 % 16) (by omega) (by omega), w64 (by omega) (by omega)]; omega
      rw [if_neg (by omega), if_neg h2, if_pos (by omega), ew, n2]
      by_cases h3 : rd l 0 / 16 = 4
      · rw [if_pos h3, if_neg (show ¬ (rd l 0 / 16 ≠ 4) from fun h => h h3), Option.bind_some]
        by_cases h4 : 4 * (rd l 0 % 16) < 20
        · rw [if_pos h4, if_pos h4]
        · rw [if_neg h4, if_neg h4]
          by_cases h5 : (l.length : Int) < 4 * (rd l 0 % 16)
          · rw [if_pos h5, if_pos (show _ ∨ _ from .inl h5)]
          · rw [if_neg h5]
            by_cases h6 : two l 2 < 4 * (rd l 0 % 16)
            · rw [if_pos h6, if_pos (show _ ∨ _ from .inr (.inl h6))]
            · rw [if_neg h6]
              by_cases h7 : (l.length : Int) < two l 2
              · rw [if_pos h7, if_pos (show _ ∨ _ from .inr (.inr h7))]
              · rw [if_neg h7, if_neg (by omega)]
      · rw [if_neg h3, if_pos h3]
theorem parse_eq (l : List Int) (k : Nat) (hb : Byte l) : ip_Parse.f (k + 20 + l.length) l = some (parseV l) := by
  have hs := size_eq l (k + 9 + l.length) hb
  rw [show k + 9 + l.length + 11 = k + 20 + l.length by omega] at hs
  unfold ip_Parse.f parseV
  rw [hs, Option.bind_some]
  unfold sizeV
  by_cases h1 : l.length > 1500
  · rw [if_pos h1, if_pos h1]; rfl
  · rw [if_neg h1, if_neg h1]
    by_cases h2 : l.length < 20
    · rw [if_pos h2, if_pos h2]; rfl
    · rw [if_neg h2, if_neg h2]
      by_cases h3 : rd l 0 / 16 ≠ 4
      · rw [if_pos h3, if_pos h3]; rfl
      · rw [if_neg h3, if_neg h3]
        by_cases h4 : 4 * (rd l 0 % 16) < 20
        · rw [if_pos h4, if_pos h4]; rfl
        · rw [if_neg h4, if_neg h4]
          by_cases h5 : (l.length : Int) < 4 * (rd l 0 % 16) ∨ two l 2 < 4 * (rd l 0 % 16) ∨ (l.length : Int) < two l 2
          · rw [if_pos h5, if_pos h5]; rfl
          · rw [if_neg h5, if_neg h5]
            have b0 := rd_byte hb (i := 0) (by omega)
            rw [show ((0 : Nat) : Int) = 0 from rfl] at b0
            have t6 := two_range hb (i := 6) (by omega)
            have t4 := two_range hb (i := 4) (by omega)
            have f12 := four_range hb (i := 12) (by omega)
            have f16 := four_range hb (i := 16) (by omega)
            generalize hh : 4 * (rd l 0 % 16) = h at *
            generalize ha : two l 2 = a at *
            have hlt : (l.take h.toNat).length = h.toNat := by rw [List.length_take]; omega
            have hsum := add_eq (l.take h.toNat) (s := 0) (k + 15 + l.length - h.toNat) (byte_take hb _) (by omega) (by omega) (by omega)
            rw [hlt, Int.zero_add, show k + 15 + l.length - h.toNat + 5 + h.toNat = k + 20 + l.length by omega] at hsum
            dsimp only
            rw [if_pos rfl, if_pos (by omega), if_pos (by omega), hsum, Option.bind_some]
            by_cases h7 : F (WL 0 (l.take h.toNat)) = 65535
            · have n6 := inum2 hb (i := 6) (k + 9 + l.length) (by omega) (by omega)
              have n4 := inum2 hb (i := 4) (k + 9 + l.length) (by omega) (by omega)
              have n12 := inum4 hb (i := 12) (k + 9 + l.length) (by omega) (by omega)
              have n16 := inum4 hb (i := 16) (k + 9 + l.length) (by omega) (by omega)
              rw [show k + 9 + l.length + 11 = k + 20 + l.length by omega] at n6 n4 n12 n16
              rw [show ((6 : Nat) : Int) = 6 from rfl] at n6
              rw [show ((4 : Nat) : Int) = 4 from rfl] at n4
              rw [show ((12 : Nat) : Int) = 12 from rfl] at n12
              rw [show ((16 : Nat) : Int) = 16 from rfl] at n16
              rw [if_pos h7, if_neg (show ¬ (F (WL 0 (l.take h.toNat)) ≠ 65535) from fun h => h h7), n6, Option.bind_some, and_parts t6.1 (by omega)]
              by_cases h8 : two l 6 % 16384 = 0
              · rw [if_pos h8, if_neg (show ¬ (two l 6 % 16384 ≠ 0) from fun h => h h8), if_pos (by omega), n12, Option.bind_some, n16, Option.bind_some, if_pos (by omega), n4, Option.bind_some, if_pos (by omega), if_pos (by omega)]
                unfold slices_Clone.f slices_Clip.f
                rw [if_pos (by rw [List.length_drop, List.length_take]; omega), Option.bind_some, Option.bind_some, wrap_u16, Int.emod_eq_of_lt (a := two l 4) (by omega) (by omega), Int.emod_eq_of_lt (a := four l 12) f12.1 f12.2, Int.emod_eq_of_lt (a := four l 16) f16.1 f16.2]
              · rw [if_neg h8, if_pos h8]; rfl
            · rw [if_neg h7, if_pos h7]; rfl
end Go.Proofs.Ytofjgdbiieanjaa.NetIp
