import Derived.Test.YtofjgdbiieanjaaAllx51
import Derived.Test.YtofjgdbiieanjaaNetTurn
import Derived.Test.YtofjgdbiieanjaaAllx53
import Derived.Test.YtofjgdbiieanjaaAllx55
namespace Go.Proofs.Ytofjgdbiieanjaa.NetIp
open Go.RowKit Go.Proofs.Ytofjgdbiieanjaa.All Go.Proofs.Ytofjgdbiieanjaa.Ext Go.Proofs.Ytofjgdbiieanjaa.Bits Go.Proofs.YtofjgdbiieanjaaW.PrintWords Go.Proofs.YtofjgdbiieanjaaW.PrintLast Go.Proofs.Ytofjgdbiieanjaa.NetField Go.Proofs.Ytofjgdbiieanjaa.NetSum Go.Proofs.Ytofjgdbiieanjaa.NetRef
/-! What ip and its reference come to. -/
theorem byte_all {f : Int → Bool} (h : ((List.range 256).all fun n => f (n : Int)) = true) {a : Int} (h0 : 0 ≤ a) (h1 : a < 256) : f a = true := by
  have h2 := List.all_eq_true.1 h a.toNat (List.mem_range.2 (by omega))
  rwa [show ((a.toNat : Nat) : Int) = a by omega] at h2
theorem and15_all : ((List.range 256).all fun n => Go.bits .and .u8 (n : Int) 15 == (n : Int) % 16) = true := by kernel_rfl
theorem and15 {a : Int} (h0 : 0 ≤ a) (h1 : a < 256) : Go.bits .and .u8 a 15 = a % 16 := eq_of_beq (byte_all (f := fun a => Go.bits .and .u8 a 15 == a % 16) and15_all h0 h1)
theorem and_parts {x : Int} (h0 : 0 ≤ x) (h1 : x < 9223372036854775808) : bits .and .i64 x 16383 = x % 16384 := by
  have h := bits_mask .i64 63 (by decide) (fun n a b => by rw [i64_w]; exact w64 (by omega) (by omega)) 14 (by decide) x h0 (by omega)
  simpa using h
/-- A number of four bytes. -/
def four (l : List Int) (i : Nat) : Int := 65536 * two l i + two l (i + 2)
theorem four_range {l : List Int} (hb : Byte l) {i : Nat} (h : i + 3 < l.length) : 0 ≤ four l i ∧ four l i < 4294967296 := by
  have h1 := two_range hb (show i + 1 < l.length by omega)
  have h2 := two_range hb (show (i + 2) + 1 < l.length by omega)
  unfold four; omega
theorem num_four {l : List Int} {i : Nat} (h : i + 3 < l.length) : numL 0 (cutL l i 4) = four l i := by
  have e : cutL l i 4 = [rd l (i : Int), rd l ((i + 1 : Nat) : Int), rd l ((i + 2 : Nat) : Int), rd l ((i + 3 : Nat) : Int)] := by
    unfold cutL
    have h1 := NetSum.rd_cons (l := l.take (i + 4)) (i := i) (by rw [List.length_take]; omega)
    have h2 := NetSum.rd_cons (l := l.take (i + 4)) (i := i + 1) (by rw [List.length_take]; omega)
    have h3 := NetSum.rd_cons (l := l.take (i + 4)) (i := i + 2) (by rw [List.length_take]; omega)
    have h4 := NetSum.rd_cons (l := l.take (i + 4)) (i := i + 3) (by rw [List.length_take]; omega)
    have h5 : (l.take (i + 4)).drop (i + 3 + 1) = [] := List.drop_eq_nil_of_le (by rw [List.length_take]; omega)
    rw [h5] at h4
    rw [show i + 2 + 1 = i + 3 by omega, h4] at h3
    rw [show i + 1 + 1 = i + 2 by omega, h3] at h2
    rw [h2] at h1
    rw [h1]
    have r : ∀ j : Nat, j < i + 4 → rd (l.take (i + 4)) (j : Int) = rd l (j : Int) := by
      intro j hj
      simp only [rd, Int.toNat_natCast, List.getD_eq_getElem?_getD, List.getElem?_take]
      rw [if_pos hj]
    rw [r i (by omega), r (i + 1) (by omega), r (i + 2) (by omega), r (i + 3) (by omega)]
  rw [e]
  simp only [numL, List.foldl_cons, List.foldl_nil, four, two]
  rw [show i + 2 + 1 = i + 3 by omega]
  omega
theorem inum2 {l : List Int} (hb : Byte l) {i : Nat} (k : Nat) (h : i + 1 < l.length) (hl : l.length ≤ 9223372036854775807) : ip_num.f (k + 11) l (i : Int) 2 = some (two l i) := by
  have h1 := two_range hb h
  unfold ip_num.f
  rw [num2 hb k h hl, Option.bind_some]
  dsimp only
  rw [w64 (by omega) (by omega)]
theorem inum4 {l : List Int} (hb : Byte l) {i : Nat} (k : Nat) (h : i + 3 < l.length) (hl : l.length ≤ 9223372036854775807) : ip_num.f (k + 11) l (i : Int) 4 = some (four l i) := by
  have h1 := four_range hb h
  have h2 := num_yes l i 4 k hb (by omega) (by omega) (by omega) hl
  rw [num_four h, show ((4 : Nat) : Int) = 4 from rfl] at h2
  unfold ip_num.f
  rw [h2, Option.bind_some]
  dsimp only
  rw [w64 (by omega) (by omega)]
abbrev Out := Int × Int × Int × Int × Int × Int × Int × List Int × Int
/-- Nothing, and what is wrong. -/
def no (e : Int) : Out := (0, 0, 0, 0, 0, 0, 0, [], e)
/-- What a packet says, or what is wrong. -/
def parseV (l : List Int) : Out :=
  if l.length > 1500 then no 2 else if l.length < 20 then no 4 else if rd l 0 / 16 ≠ 4 then no 5 else if 4 * (rd l 0 % 16) < 20 then no 6
  else if (l.length : Int) < 4 * (rd l 0 % 16) ∨ two l 2 < 4 * (rd l 0 % 16) ∨ (l.length : Int) < two l 2 then no 4
  else if F (WL 0 (l.take (4 * (rd l 0 % 16)).toNat)) ≠ 65535 then no 7 else if two l 6 % 16384 ≠ 0 then no 8
  else (rd l 9, four l 12, four l 16, 4 * (rd l 0 % 16), two l 2, rd l 8, two l 4, (l.take (two l 2).toNat).drop (4 * (rd l 0 % 16)).toNat, 0)
def sizeV (l : List Int) : Int × Int × Int :=
  if l.length > 1500 then (0, 0, 2) else if l.length < 20 then (0, 0, 4) else if rd l 0 / 16 ≠ 4 then (0, 0, 5) else if 4 * (rd l 0 % 16) < 20 then (0, 0, 6)
  else if (l.length : Int) < 4 * (rd l 0 % 16) ∨ two l 2 < 4 * (rd l 0 % 16) ∨ (l.length : Int) < two l 2 then (0, 0, 4) else (4 * (rd l 0 % 16), two l 2, 0)
theorem size_eq (l : List Int) (k : Nat) (hb : Byte l) : ip_size.f (k + 11) l = some (sizeV l) := by
  unfold ip_size.f sizeV
  by_cases h1 : l.length > 1500
  · rw [if_pos (by omega), if_pos h1]
  · rw [if_neg (by omega), if_neg h1]
    by_cases h2 : l.length < 20
    · rw [if_pos (by omega), if_pos h2]
    · have b0 := rd_byte hb (i := 0) (by omega)
      rw [show ((0 : Nat) : Int) = 0 from rfl] at b0
      have t2 := two_range hb (i := 2) (by omega)
      have n2 := inum2 hb (i := 2) k (by omega) (by omega)
      rw [show ((2 : Nat) : Int) = 2 from rfl] at n2
      have ew : wrap64 ((wrap64 (Go.bits .and .u8 (rd l 0) 15)) * 4) = 4 * (rd l 0 % 16) := by rw [and15 b0.1 b0.2, w64 (n := rd l 0 % 16) (by omega) (by omega), w64 (by omega) (by omega)]; omega
      rw [if_neg (by omega), if_neg h2, if_pos (by omega), ew, n2]
      by_cases h3 : rd l 0 / 16 = 4
      · rw [if_pos h3, if_neg (show ¬ (rd l 0 / 16 ≠ 4) from fun h => h h3), Option.bind_some]
        by_cases h4 : 4 * (rd l 0 % 16) < 20
        · rw [if_pos h4, if_pos h4]
        · rw [if_neg h4, if_neg h4]
          by_cases h5 : (l.length : Int) < 4 * (rd l 0 % 16)
          · rw [if_pos h5, if_pos (show _ ∨ _ from .inl h5)]
          · rw [if_neg h5]
            by_cases h6 : two l 2 < 4 * (rd l 0 % 16)
            · rw [if_pos h6, if_pos (show _ ∨ _ from .inr (.inl h6))]
            · rw [if_neg h6]
              by_cases h7 : (l.length : Int) < two l 2
              · rw [if_pos h7, if_pos (show _ ∨ _ from .inr (.inr h7))]
              · rw [if_neg h7, if_neg (by omega)]
      · rw [if_neg h3, if_pos h3]
theorem parse_eq (l : List Int) (k : Nat) (hb : Byte l) : ip_Parse.f (k + 20 + l.length) l = some (parseV l) := by
  have hs := size_eq l (k + 9 + l.length) hb
  rw [show k + 9 + l.length + 11 = k + 20 + l.length by omega] at hs
  unfold ip_Parse.f parseV
  rw [hs, Option.bind_some]
  unfold sizeV
  by_cases h1 : l.length > 1500
  · rw [if_pos h1, if_pos h1]; rfl
  · rw [if_neg h1, if_neg h1]
    by_cases h2 : l.length < 20
    · rw [if_pos h2, if_pos h2]; rfl
    · rw [if_neg h2, if_neg h2]
      by_cases h3 : rd l 0 / 16 ≠ 4
      · rw [if_pos h3, if_pos h3]; rfl
      · rw [if_neg h3, if_neg h3]
        by_cases h4 : 4 * (rd l 0 % 16) < 20
        · rw [if_pos h4, if_pos h4]; rfl
        · rw [if_neg h4, if_neg h4]
          by_cases h5 : (l.length : Int) < 4 * (rd l 0 % 16) ∨ two l 2 < 4 * (rd l 0 % 16) ∨ (l.length : Int) < two l 2
          · rw [if_pos h5, if_pos h5]; rfl
          · rw [if_neg h5, if_neg h5]
            have b0 := rd_byte hb (i := 0) (by omega)
            rw [show ((0 : Nat) : Int) = 0 from rfl] at b0
            have t6 := two_range hb (i := 6) (by omega)
            have t4 := two_range hb (i := 4) (by omega)
            have f12 := four_range hb (i := 12) (by omega)
            have f16 := four_range hb (i := 16) (by omega)
            generalize hh : 4 * (rd l 0 % 16) = h at *
            generalize ha : two l 2 = a at *
            have hlt : (l.take h.toNat).length = h.toNat := by rw [List.length_take]; omega
            have hsum := add_eq (l.take h.toNat) (s := 0) (k + 15 + l.length - h.toNat) (byte_take hb _) (by omega) (by omega) (by omega)
            rw [hlt, Int.zero_add, show k + 15 + l.length - h.toNat + 5 + h.toNat = k + 20 + l.length by omega] at hsum
            dsimp only
            rw [if_pos rfl, if_pos (by omega), if_pos (by omega), hsum, Option.bind_some]
            by_cases h7 : F (WL 0 (l.take h.toNat)) = 65535
            · have n6 := inum2 hb (i := 6) (k + 9 + l.length) (by omega) (by omega)
              have n4 := inum2 hb (i := 4) (k + 9 + l.length) (by omega) (by omega)
              have n12 := inum4 hb (i := 12) (k + 9 + l.length) (by omega) (by omega)
              have n16 := inum4 hb (i := 16) (k + 9 + l.length) (by omega) (by omega)
              rw [show k + 9 + l.length + 11 = k + 20 + l.length by omega] at n6 n4 n12 n16
              rw [show ((6 : Nat) : Int) = 6 from rfl] at n6
              rw [show ((4 : Nat) : Int) = 4 from rfl] at n4
              rw [show ((12 : Nat) : Int) = 12 from rfl] at n12
              rw [show ((16 : Nat) : Int) = 16 from rfl] at n16
              rw [if_pos h7, if_neg (show ¬ (F (WL 0 (l.take h.toNat)) ≠ 65535) from fun h => h h7), n6, Option.bind_some, and_parts t6.1 (by omega)]
              by_cases h8 : two l 6 % 16384 = 0
              · rw [if_pos h8, if_neg (show ¬ (two l 6 % 16384 ≠ 0) from fun h => h h8), if_pos (by omega), n12, Option.bind_some, n16, Option.bind_some, if_pos (by omega), n4, Option.bind_some, if_pos (by omega), if_pos (by omega)]
                unfold slices_Clone.f slices_Clip.f
                rw [if_pos (by rw [List.length_drop, List.length_take]; omega), Option.bind_some, Option.bind_some, wrap_u16, Int.emod_eq_of_lt (a := two l 4) (by omega) (by omega), Int.emod_eq_of_lt (a := four l 12) f12.1 f12.2, Int.emod_eq_of_lt (a := four l 16) f16.1 f16.2]
              · rw [if_neg h8, if_pos h8]; rfl
            · rw [if_neg h7, if_pos h7]; rfl
end Go.Proofs.Ytofjgdbiieanjaa.NetIp
namespace Go.Proofs.Ytofjgdbiieanjaa.NetIp
open Go.RowKit Go.Proofs.Ytofjgdbiieanjaa.All Go.Proofs.Ytofjgdbiieanjaa.Ext Go.Proofs.Ytofjgdbiieanjaa.Bits Go.Proofs.YtofjgdbiieanjaaW.PrintWords Go.Proofs.YtofjgdbiieanjaaW.PrintLast Go.Proofs.Ytofjgdbiieanjaa.NetField Go.Proofs.Ytofjgdbiieanjaa.NetSum Go.Proofs.Ytofjgdbiieanjaa.NetRef
/-! What ip.Build and its reference come to. -/
theorem cut_of {v : Int} (s k : Nat) (h0 : 0 ≤ v) (h1 : 1 ≤ s) (h8 : s ≤ 8) : field_Cut.f (k + 11) v (s : Int) = some (bytesL v.toNat s) := by
  have h := cut_yes v.toNat s k h1 h8
  rwa [show ((v.toNat : Nat) : Int) = v by omega] at h
theorem wide_eq {a : Int} (h0 : 0 ≤ a) (h1 : a < 4294967296) : mantletref04_Wide.f a = some (bytesL a.toNat 4) := by
  unfold mantletref04_Wide.f
  have e1 : Int.tdiv a 65536 % 4294967296 = a / 65536 := by rw [Int.tdiv_eq_ediv_of_nonneg h0]; omega
  have e2 : wrap64 (Int.tmod a 65536) = a % 65536 := by rw [Int.tmod_eq_emod_of_nonneg h0, w64 (by omega) (by omega)]
  rw [e1, e2, put_two (by omega) (by omega), put_two (by omega) (by omega), Option.bind_some, Option.bind_some, if_pos (by rw [bytesL_length, bytesL_length]; omega)]
  congr 1
  simp only [bytesL, Nat.reduceMul, Nat.reducePow, List.cons_append, List.nil_append]
  refine List.cons_eq_cons.2 ⟨by omega, List.cons_eq_cons.2 ⟨by omega, List.cons_eq_cons.2 ⟨by omega, List.cons_eq_cons.2 ⟨by omega, rfl⟩⟩⟩⟩
/-- A header up to its checksum; and what stands behind that. -/
def frontL (p t i : Int) (n : Nat) : List Int := [69, 0] ++ (bytesL (20 + n) 2 ++ (bytesL i.toNat 2 ++ [0, 0, t, p]))
def tailL (s d : Int) : List Int := bytesL s.toNat 4 ++ bytesL d.toNat 4
def headL (p s d t i : Int) (n : Nat) : List Int := frontL p t i n ++ ([0, 0] ++ tailL s d)
theorem front_length (p t i : Int) (n : Nat) : (frontL p t i n).length = 10 := by simp [frontL, bytesL_length]
theorem tail_length (s d : Int) : (tailL s d).length = 8 := by simp [tailL, bytesL_length]
theorem front_byte {p t : Int} (i : Int) (n : Nat) (p0 : 0 ≤ p) (p1 : p < 256) (t0 : 0 ≤ t) (t1 : t < 256) : Byte (frontL p t i n) := by
  refine byte_app ?_ (byte_app (byte_bytesL _ _) (byte_app (byte_bytesL _ _) ?_)) <;>
  · intro x hx
    simp only [List.mem_cons, List.not_mem_nil, or_false] at hx
    omega
theorem tail_byte (s d : Int) : Byte (tailL s d) := byte_app (byte_bytesL _ _) (byte_bytesL _ _)
theorem WL_head (p s d t i : Int) (n : Nat) : WL 0 (headL p s d t i n) = WL 0 (frontL p t i n ++ tailL s d) := by
  unfold headL
  rw [WL_append, WL_append, WL_append, front_length]
  simp only [WL, List.length_cons, List.length_nil]
  rw [WL_even (tailL s d) (0 + 10 + (0 + 1 + 1)) (0 + 10) (by omega)]
  omega
def checkV (p s d t i : Int) (n : Nat) : Int := 65535 - F (WL 0 (headL p s d t i n))
theorem check_range (p s d t i : Int) (n : Nat) : 0 ≤ checkV p s d t i n ∧ checkV p s d t i n ≤ 65535 := by
  have := F_range (WL 0 (headL p s d t i n))
  unfold checkV; omega
/-- A packet. -/
def buildL (p s d t i : Int) (b : List Int) : List Int := frontL p t i b.length ++ (bytesL (checkV p s d t i b.length).toNat 2 ++ (tailL s d ++ b))
def buildV (p s d t i : Int) (b : List Int) : List Int × Int := if b.length > 1480 then ([], 2) else (buildL p s d t i b, 0)
theorem build_eq {p s d t i : Int} (z1 z2 : Int) (b : List Int) (k : Nat) (p0 : 0 ≤ p) (p1 : p < 256) (s0 : 0 ≤ s) (s1 : s < 4294967296) (d0 : 0 ≤ d) (d1 : d < 4294967296) (t0 : 0 ≤ t) (t1 : t < 256) (i0 : 0 ≤ i) (i1 : i < 65536) (hl : b.length ≤ 10000) :
    ip_Build.f (k + 80) p s d z1 z2 t i b = some (buildV p s d t i b) := by
  have hfb := front_byte i b.length p0 p1 t0 t1
  have htb := tail_byte s d
  have hhb : Byte (headL p s d t i b.length) := byte_app hfb (byte_app (by intro x hx; simp only [List.mem_cons, List.not_mem_nil, or_false] at hx; omega) htb)
  have hhl : (headL p s d t i b.length).length = 20 := by simp [headL, front_length, tail_length]
  have hcr := check_range p s d t i b.length
  unfold ip_Build.f buildV
  by_cases h1 : b.length > 1480
  · rw [if_pos (by omega), if_pos h1]
  · have c1 := cut_of (v := ((20 + b.length : Nat) : Int)) 2 (k + 69) (by omega) (by omega) (by omega)
    have c2 := cut_of (v := i) 2 (k + 69) i0 (by omega) (by omega)
    have c3 := cut_of (v := s) 4 (k + 69) s0 (by omega) (by omega)
    have c4 := cut_of (v := d) 4 (k + 69) d0 (by omega) (by omega)
    have c5 := cut_of (v := checkV p s d t i b.length) 2 (k + 69) hcr.1 (by omega) (by omega)
    have hc := concat_eq [[69, 0], bytesL (20 + b.length) 2, bytesL i.toNat 2, [0, 0, t, p, 0, 0], bytesL s.toNat 4, bytesL d.toNat 4] (k + 66) (by simp) (by simp [bytesL_length])
    have ho := of_eq (headL p s d t i b.length) (k + 55) hhb (by omega)
    simp only [List.length_cons, List.length_nil, List.flatten_cons, List.flatten_nil, List.append_nil] at hc
    rw [hhl, show k + 55 + 5 + 20 = k + 80 by omega] at ho
    rw [show k + 69 + 11 = k + 80 by omega] at c1 c2 c3 c4 c5
    rw [show k + 66 + 2 + (0 + 1 + 1 + 1 + 1 + 1 + 1) + (0 + 1 + 1 + 1 + 1 + 1 + 1) = k + 80 by omega] at hc
    rw [show ((2 : Nat) : Int) = 2 from rfl] at c1 c2 c5
    rw [show ((4 : Nat) : Int) = 4 from rfl] at c3 c4
    rw [Int.toNat_natCast] at c1
    have hL : [69, 0] ++ (bytesL (20 + b.length) 2 ++ (bytesL i.toNat 2 ++ ([0, 0, t, p, 0, 0] ++ (bytesL s.toNat 4 ++ bytesL d.toNat 4)))) = headL p s d t i b.length := by simp [headL, frontL, tailL]
    rw [hL] at hc
    have e20 : IntKind.u64.wrap (wrap64 (20 + (b.length : Int))) = ((20 + b.length : Nat) : Int) := by rw [w64 (by omega) (by omega), wraps_u64 _ (by omega) (by omega)]; omega
    have hcl : (bytesL (checkV p s d t i b.length).toNat 2).length = 2 := bytesL_length _ _
    have hsl : (splice (headL p s d t i b.length) ((10 : Int).toNat) (bytesL (checkV p s d t i b.length).toNat 2)).length = 20 := by rw [length_splice _ _ _ (by rw [hcl, hhl]; decide), hhl]
    rw [if_neg (by omega), if_neg h1, e20, c1, Option.bind_some, wraps_u64 i i0 (by omega), c2, Option.bind_some, wraps_u64 s s0 (by omega), c3, Option.bind_some, wraps_u64 d d0 (by omega), c4, Option.bind_some, hc, Option.bind_some, if_pos (by omega), ho, Option.bind_some]
    show ((field_Cut.f (k + 80) (IntKind.u64.wrap (checkV p s d t i b.length)) 2).bind _) = _
    rw [wraps_u64 _ hcr.1 (by omega), c5, Option.bind_some, if_pos (by omega), Option.bind_some, if_pos (by rw [hsl]; omega)]
    unfold slices_Clip.f
    rw [Option.bind_some]
    congr 2
end Go.Proofs.Ytofjgdbiieanjaa.NetIp
namespace Go.Proofs.Ytofjgdbiieanjaa.NetIp
open Go.RowKit Go.Proofs.Ytofjgdbiieanjaa.All Go.Proofs.Ytofjgdbiieanjaa.Ext Go.Proofs.Ytofjgdbiieanjaa.Bits Go.Proofs.YtofjgdbiieanjaaW.PrintWords Go.Proofs.YtofjgdbiieanjaaW.PrintLast Go.Proofs.Ytofjgdbiieanjaa.NetField Go.Proofs.Ytofjgdbiieanjaa.NetSum Go.Proofs.Ytofjgdbiieanjaa.NetRef Go.Proofs.Ytofjgdbiieanjaa.NetTurn
/-! What is built is whole, and says what it was built of. -/
theorem four_bytes {n : Int} (h0 : 0 ≤ n) (h1 : n < 4294967296) : bytesL n.toNat 4 = [n / 16777216, n / 65536 % 256, n / 256 % 256, n % 256] := by
  simp only [bytesL, Nat.reduceMul, Nat.reducePow]
  refine List.cons_eq_cons.2 ⟨by omega, List.cons_eq_cons.2 ⟨by omega, List.cons_eq_cons.2 ⟨by omega, List.cons_eq_cons.2 ⟨by omega, rfl⟩⟩⟩⟩
/-- The header, its checksum c. -/
def topL (p s d t i n c : Int) : List Int := [69, 0, (20 + n) / 256, (20 + n) % 256, i / 256, i % 256, 0, 0, t, p, c / 256, c % 256, s / 16777216, s / 65536 % 256, s / 256 % 256, s % 256, d / 16777216, d / 65536 % 256, d / 256 % 256, d % 256]
section
variable {p s d t i : Int} {b : List Int}
theorem size_bytes (hl : b.length ≤ 1480) : bytesL (20 + b.length) 2 = [(20 + (b.length : Int)) / 256, (20 + (b.length : Int)) % 256] := by
  have h := two_bytes (n := 20 + (b.length : Int)) (by omega) (by omega)
  rwa [show (20 + (b.length : Int)).toNat = 20 + b.length by omega] at h
theorem ip_list (s0 : 0 ≤ s) (s1 : s < 4294967296) (d0 : 0 ≤ d) (d1 : d < 4294967296) (i0 : 0 ≤ i) (i1 : i < 65536) (hl : b.length ≤ 1480) :
    buildL p s d t i b = topL p s d t i b.length (checkV p s d t i b.length) ++ b := by
  have hc := check_range p s d t i b.length
  unfold buildL frontL tailL
  rw [size_bytes hl, two_bytes i0 (by omega), two_bytes hc.1 hc.2, four_bytes s0 s1, four_bytes d0 d1]
  rfl
theorem ihead_list (s0 : 0 ≤ s) (s1 : s < 4294967296) (d0 : 0 ≤ d) (d1 : d < 4294967296) (i0 : 0 ≤ i) (i1 : i < 65536) (hl : b.length ≤ 1480) :
    headL p s d t i b.length = topL p s d t i b.length 0 := by
  unfold headL frontL tailL
  rw [size_bytes hl, two_bytes i0 (by omega), four_bytes s0 s1, four_bytes d0 d1]
  rfl
theorem ip_length (p s d t i : Int) (b : List Int) : (buildL p s d t i b).length = 20 + b.length := by
  unfold buildL
  rw [List.length_append, front_length, List.length_append, bytesL_length, List.length_append, tail_length]
  omega
theorem top_byte {n c : Int} (p0 : 0 ≤ p) (p1 : p < 256) (s0 : 0 ≤ s) (s1 : s < 4294967296) (d0 : 0 ≤ d) (d1 : d < 4294967296) (t0 : 0 ≤ t) (t1 : t < 256) (i0 : 0 ≤ i) (i1 : i < 65536) (n0 : 0 ≤ n) (n1 : n ≤ 1480) (c0 : 0 ≤ c) (c1 : c ≤ 65535) : Byte (topL p s d t i n c) := by
  unfold topL
  iterate 20 refine byte_cons (by omega) ?_
  exact byte_nil
theorem ip_byte (p0 : 0 ≤ p) (p1 : p < 256) (s0 : 0 ≤ s) (s1 : s < 4294967296) (d0 : 0 ≤ d) (d1 : d < 4294967296) (t0 : 0 ≤ t) (t1 : t < 256) (i0 : 0 ≤ i) (i1 : i < 65536) (hl : b.length ≤ 1480) (hb : Byte b) : Byte (buildL p s d t i b) := by
  have hc := check_range p s d t i b.length
  rw [ip_list s0 s1 d0 d1 i0 i1 hl]
  exact byte_app (top_byte p0 p1 s0 s1 d0 d1 t0 t1 i0 i1 (by omega) (by omega) hc.1 hc.2) hb
theorem top_sum (p0 : 0 ≤ p) (p1 : p < 256) (s0 : 0 ≤ s) (s1 : s < 4294967296) (d0 : 0 ≤ d) (d1 : d < 4294967296) (t0 : 0 ≤ t) (t1 : t < 256) (i0 : 0 ≤ i) (i1 : i < 65536) (hl : b.length ≤ 1480) :
    F (WL 0 (topL p s d t i b.length (checkV p s d t i b.length))) = 65535 := by
  have h0 := top_byte (n := b.length) (c := 0) p0 p1 s0 s1 d0 d1 t0 t1 i0 i1 (by omega) (by omega) (by omega) (by omega)
  have hw := WL_nonneg (topL p s d t i b.length 0) 0 h0
  have e : ∀ c : Int, 0 ≤ c → WL 0 (topL p s d t i b.length c) = WL 0 (topL p s d t i b.length 0) + c := by
    intro c _
    unfold topL
    simp only [WL]
    simp only [Nat.reduceAdd, Nat.reduceMod, if_true, if_false, Nat.one_ne_zero]
    omega
  rw [e _ (check_range p s d t i b.length).1]
  unfold checkV
  rw [ihead_list s0 s1 d0 d1 i0 i1 hl]
  exact whole hw
theorem rd_top {n c : Int} {m : List Int} : rd (topL p s d t i n c ++ m) 0 = 69 ∧ rd (topL p s d t i n c ++ m) 8 = t ∧ rd (topL p s d t i n c ++ m) 9 = p ∧ two (topL p s d t i n c ++ m) 2 = 20 + n ∧ two (topL p s d t i n c ++ m) 4 = i ∧ two (topL p s d t i n c ++ m) 6 = 0 := by
  refine ⟨rfl, rfl, rfl, ?_, ?_, rfl⟩
  · show 256 * ((20 + n) / 256) + (20 + n) % 256 = 20 + n; omega
  · show 256 * (i / 256) + i % 256 = i; omega
theorem four_top {n c : Int} {m : List Int} : four (topL p s d t i n c ++ m) 12 = s ∧ four (topL p s d t i n c ++ m) 16 = d := by
  refine ⟨?_, ?_⟩
  · show 65536 * (256 * (s / 16777216) + s / 65536 % 256) + (256 * (s / 256 % 256) + s % 256) = s; omega
  · show 65536 * (256 * (d / 16777216) + d / 65536 % 256) + (256 * (d / 256 % 256) + d % 256) = d; omega
theorem top_length (n c : Int) : (topL p s d t i n c).length = 20 := rfl
/-- What is built is parsed as it was, whatever is behind it. -/
theorem ip_parsed (m : List Int) (p0 : 0 ≤ p) (p1 : p < 256) (s0 : 0 ≤ s) (s1 : s < 4294967296) (d0 : 0 ≤ d) (d1 : d < 4294967296) (t0 : 0 ≤ t) (t1 : t < 256) (i0 : 0 ≤ i) (i1 : i < 65536) (hl : b.length ≤ 1480) (hm : b.length + m.length ≤ 1480) :
    parseV (buildL p s d t i b ++ m) = (p, s, d, 20, 20 + (b.length : Int), t, i, b, 0) := by
  have hs := top_sum (p := p) (t := t) p0 p1 s0 s1 d0 d1 t0 t1 i0 i1 hl
  rw [ip_list s0 s1 d0 d1 i0 i1 hl, List.append_assoc]
  generalize checkV p s d t i b.length = c at *
  obtain ⟨r0, r8, r9, t2, t4, t6⟩ := @rd_top p s d t i (b.length : Int) c (b ++ m)
  obtain ⟨f12, f16⟩ := @four_top p s d t i (b.length : Int) c (b ++ m)
  have hT := @top_length p s d t i (b.length : Int) c
  have hlen : (topL p s d t i b.length c ++ (b ++ m)).length = 20 + (b.length + m.length) := by rw [List.length_append, List.length_append, hT]
  have e1 : (topL p s d t i b.length c ++ (b ++ m)).take (4 * ((69 : Int) % 16)).toNat = topL p s d t i b.length c := by
    rw [show (4 * ((69 : Int) % 16)).toNat = (topL p s d t i b.length c).length from rfl, List.take_left]
  have e2 : ((topL p s d t i b.length c ++ (b ++ m)).take (20 + (b.length : Int)).toNat).drop (4 * ((69 : Int) % 16)).toNat = b := by
    rw [show (20 + (b.length : Int)).toNat = (topL p s d t i b.length c ++ b).length by rw [List.length_append, hT]; omega, ← List.append_assoc, List.take_left,
      show (4 * ((69 : Int) % 16)).toNat = (topL p s d t i b.length c).length from rfl, List.drop_left]
  unfold parseV
  rw [r0, r8, r9, t2, t4, t6, f12, f16, e1, e2, hs, if_neg (by omega), if_neg (by omega), if_neg (by omega), if_neg (by omega), if_neg (by omega), if_neg (by decide), if_neg (by decide)]
  rfl
/-- One bit of the header turned, but of how long that is: something is wrong. -/
theorem ip_turned {j m : Nat} (p0 : 0 ≤ p) (p1 : p < 256) (s0 : 0 ≤ s) (s1 : s < 4294967296) (d0 : 0 ≤ d) (d1 : d < 4294967296) (t0 : 0 ≤ t) (t1 : t < 256) (i0 : 0 ≤ i) (i1 : i < 65536) (hl : b.length ≤ 1480) (hj : j < 20) (hm : m < 8) (h4 : 0 < j ∨ 4 ≤ m) :
    (parseV (turnL (buildL p s d t i b) j m)).2.2.2.2.2.2.2.2 ≠ 0 := by
  have hs := top_sum (p := p) (t := t) p0 p1 s0 s1 d0 d1 t0 t1 i0 i1 hl
  have hc := check_range p s d t i b.length
  have hno : ∀ e : Int, (no e).2.2.2.2.2.2.2.2 = e := fun _ => rfl
  have hB := top_byte (n := b.length) p0 p1 s0 s1 d0 d1 t0 t1 i0 i1 (by omega) (by omega) hc.1 hc.2
  rw [ip_list s0 s1 d0 d1 i0 i1 hl]
  generalize checkV p s d t i b.length = c at *
  have hT := @top_length p s d t i (b.length : Int) c
  have hlen : (topL p s d t i b.length c ++ b).length = 20 + b.length := by rw [List.length_append, hT]
  have ht : turnL (topL p s d t i b.length c ++ b) j m = turnL (topL p s d t i b.length c) j m ++ b := by
    unfold turnL
    have : rd (topL p s d t i b.length c ++ b) (j : Int) = rd (topL p s d t i b.length c) (j : Int) := by
      unfold rd
      rw [Int.toNat_natCast, List.getD_eq_getElem?_getD, List.getD_eq_getElem?_getD, List.getElem?_append_left (by rw [hT]; exact hj)]
    rw [this, List.set_append_left _ _ (by rw [hT]; exact hj)]
  have hq := turnL_sum (s := 0) hB (by rw [Int.zero_add]; exact hs) (j := j) (m := m) (by rw [hT]; exact hj) hm
  rw [Int.zero_add] at hq
  have hql : (turnL (topL p s d t i b.length c) j m).length = 20 := by rw [turnL_length, hT]
  unfold parseV
  rw [turnL_length, hlen, if_neg (by omega), if_neg (by omega)]
  by_cases h0 : j = 0
  · subst h0
    have e : rd (turnL (topL p s d t i b.length c ++ b) 0 m) 0 = bits .xor .u8 69 (shl .u8 1 (m : Int)) := by
      have h := rd_set (l := topL p s d t i b.length c ++ b) (i := 0) (j := 0) (v := bits .xor .u8 (rd (topL p s d t i b.length c ++ b) ((0 : Nat) : Int)) (shl .u8 1 (m : Int))) (by rw [hlen]; omega)
      rw [if_pos rfl] at h
      exact h
    have hv : bits .xor .u8 69 (shl .u8 1 (m : Int)) / 16 ≠ 4 := by
      have h4 : m = 4 ∨ m = 5 ∨ m = 6 ∨ m = 7 := by omega
      rw [turned (by omega) (by omega) hm]
      rcases h4 with rfl | rfl | rfl | rfl <;> decide
    rw [e, if_pos hv, hno]
    omega
  · have e : rd (turnL (topL p s d t i b.length c ++ b) j m) 0 = 69 := by
      have h := turnL_rd (l := topL p s d t i b.length c ++ b) (i := 0) (j := j) (m := m) (by rw [hlen]; omega) h0
      exact h
    have e1 : (turnL (topL p s d t i b.length c ++ b) j m).take (4 * ((69 : Int) % 16)).toNat = turnL (topL p s d t i b.length c) j m := by
      rw [ht, show (4 * ((69 : Int) % 16)).toNat = (turnL (topL p s d t i b.length c) j m).length by rw [hql]; rfl, List.take_left]
    rw [e, e1, if_neg (by omega), if_neg (by omega)]
    split <;> (rw [hno]; omega)
end
end Go.Proofs.Ytofjgdbiieanjaa.NetIp
