import Derived.Test.YtofjgdbiieanjaaAllx53
import Derived.Test.YtofjgdbiieanjaaAllx55
import Derived.Test.YtofjgdbiieanjaaNetIp
namespace Go.Proofs.Ytofjgdbiieanjaa.NetIp
open Go.RowKit Go.Proofs.Ytofjgdbiieanjaa.All Go.Proofs.Ytofjgdbiieanjaa.Ext Go.Proofs.Ytofjgdbiieanjaa.Bits Go.Proofs.YtofjgdbiieanjaaW.PrintWords Go.Proofs.YtofjgdbiieanjaaW.PrintLast Go.Proofs.Ytofjgdbiieanjaa.NetField Go.Proofs.Ytofjgdbiieanjaa.NetSum Go.Proofs.Ytofjgdbiieanjaa.NetRef
/-! What ip.Build and its reference come to. -/
theorem cut_of {v : Int} (s k : Nat) (h0 : 0 ≤ v) (h1 : 1 ≤ s) (h8 : s ≤ 8) : field_Cut.f (k + 11) v (s : Int) = some (bytesL v.toNat s) := by
  have h := cut_yes v.toNat s k h1 h8
  rwa [show ((v.toNat : Nat) : Int) = v by omega] at h
theorem wide_eq {a : Int} (h0 : 0 ≤ a) (h1 : a < 4294967296) : mantletref04_Wide.f a = some (bytesL a.toNat 4) := by
  unfold mantletref04_Wide.f
  have e1 : Int.tdiv a 65536 % 4294967296 = a / 65536 := by rw [Int.tdiv_eq_ediv_of_nonneg h0]; omega
  have e2 : wrap64 (Int.tmod a 65536) = a % 65536 := by rw [Int.tmod_eq_emod_of_nonneg h0, w64 (by omega) (by omega)]
  rw [e1, e2, put_two (by omega) (by omega), put_two (by omega) (by omega), Option.bind_some, Option.bind_some, if_pos (by rw [bytesL_length, bytesL_length]; omega)]
  congr 1
  simp only [bytesL, Nat.reduceMul, Nat.reducePow, List.cons_append, List.nil_append]
  refine List.cons_eq_cons.2 ⟨by omega, List.cons_eq_cons.2 ⟨by omega, List.cons_eq_cons.2 ⟨by omega, List.cons_eq_cons.2 ⟨by omega, rfl⟩⟩⟩⟩
/-- A header up to its checksum; and what stands behind that. -/
def frontL (p t i : Int) (n : Nat) : List Int := [69, 0] ++ (bytesL (20 + n) 2 ++ (bytesL i.toNat 2 ++ [0, 0, t, p]))
def tailL (s d : Int) : List Int := bytesL s.toNat 4 ++ bytesL d.toNat 4
def headL (p s d t i : Int) (n : Nat) : List Int := frontL p t i n ++ ([0, 0] ++ tailL s d)
theorem front_length (p t i : Int) (n : Nat) : (frontL p t i n).length = 10 := by simp [frontL, bytesL_length]
theorem tail_length (s d : Int) : (tailL s d).length = 8 := by simp [tailL, bytesL_length]
theorem front_byte {p t : Int} (i : Int) (n : Nat) (p0 : 0 ≤ p) (p1 : p < 256) (t0 : 0 ≤ t) (t1 : t < 256) : Byte (frontL p t i n) := by
  refine byte_app ?_ (byte_app (byte_bytesL _ _) (byte_app (byte_bytesL _ _) ?_)) <;>
  · intro x hx
    simp only [List.mem_cons, List.not_mem_nil, or_false] at hx
    omega
theorem tail_byte (s d : Int) : Byte (tailL s d) := byte_app (byte_bytesL _ _) (byte_bytesL _ _)
theorem WL_head (p s d t i : Int) (n : Nat) : WL 0 (headL p s d t i n) = WL 0 (frontL p t i n ++ tailL s d) := by
  unfold headL
  rw [WL_append, WL_append, WL_append, front_length]
  simp only [WL, List.length_cons, List.length_nil]
  rw [WL_even (tailL s d) (0 + 10 + (0 + 1 + 1)) (0 + 10) (by omega)]
  omega
def checkV (p s d t i : Int) (n : Nat) : Int := 65535 - F (WL 0 (headL p s d t i n))
theorem check_range (p s d t i : Int) (n : Nat) : 0 ≤ checkV p s d t i n ∧ checkV p s d t i n ≤ 65535 := by
  have := F_range (WL 0 (headL p s d t i n))
  unfold checkV; omega
/-- A packet. -/
def buildL (p s d t i : Int) (b : List Int) : List Int := frontL p t i b.length ++ (bytesL (checkV p s d t i b.length).toNat 2 ++ (tailL s d ++ b))
def buildV (p s d t i : Int) (b : List Int) : List Int × Int := if b.length > 1480 then ([], 2) else (buildL p s d t i b, 0)
theorem build_eq {p s d t i : Int} (z1 z2 : Int) (b : List Int) (k : Nat) (p0 : 0 ≤ p) (p1 : p < 256) (s0 : 0 ≤ s) (s1 : s < 4294967296) (d0 : 0 ≤ d) (d1 : d < 4294967296) (t0 : 0 ≤ t) (t1 : t < 256) (i0 : 0 ≤ i) (i1 : i < 65536) (hl : b.length ≤ 10000) :
    ip_Build.f (k + 80) p s d z1 z2 t i b = some (buildV p s d t i b) := by
  have hfb := front_byte i b.length p0 p1 t0 t1
  have htb := tail_byte s d
  have hhb : Byte (headL p s d t i b.length) := byte_app hfb (byte_app (by intro x hx; simp only [List.mem_cons, List.not_mem_nil, or_false] at hx; omega) htb)
  have hhl : (headL p s d t i b.length).length = 20 := by simp [headL, front_length, tail_length]
  have hcr := check_range p s d t i b.length
  unfold ip_Build.f buildV
  by_cases h1 : b.length > 1480
  · rw [if_pos (by omega), if_pos h1]
  · have c1 := cut_of (v := ((20 + b.length : Nat) : Int)) 2 (k + 69) (by omega) (by omega) (by omega)
    have c2 := cut_of (v := i) 2 (k + 69) i0 (by omega) (by omega)
    have c3 := cut_of (v := s) 4 (k + 69) s0 (by omega) (by omega)
    have c4 := cut_of (v := d) 4 (k + 69) d0 (by omega) (by omega)
    have c5 := cut_of (v := checkV p s d t i b.length) 2 (k + 69) hcr.1 (by omega) (by omega)
    have hc := concat_eq [[69, 0], bytesL (20 + b.length) 2, bytesL i.toNat 2, [0, 0, t, p, 0, 0], bytesL s.toNat 4, bytesL d.toNat 4] (k + 66) (by simp) (by simp [bytesL_length])
    have ho := of_eq (headL p s d t i b.length) (k + 55) hhb (by omega)
    simp only [List.length_cons, List.length_nil, List.flatten_cons, List.flatten_nil, List.append_nil] at hc
    rw [hhl, show k + 55 + 5 + 20 = k + 80 by omega] at ho
    rw [show k + 69 + 11 = k + 80 by omega] at c1 c2 c3 c4 c5
    rw [show k + 66 + 2 + (0 + 1 + 1 + 1 + 1 + 1 + 1) + (0 + 1 + 1 + 1 + 1 + 1 + 1) = k + 80 by omega] at hc
    rw [show ((2 : Nat) : Int) = 2 from rfl] at c1 c2 c5
    rw [show ((4 : Nat) : Int) = 4 from rfl] at c3 c4
    rw [Int.toNat_natCast] at c1
    have hL : [69, 0] ++ (bytesL (20 + b.length) 2 ++ (bytesL i.toNat 2 ++ ([0, 0, t, p, 0, 0] ++ (bytesL s.toNat 4 ++ bytesL d.toNat 4)))) = headL p s d t i b.length := by simp [headL, frontL, tailL]
    rw [hL] at hc
    have e20 : IntKind.u64.wrap (wrap64 (20 + (b.length : Int))) = ((20 + b.length : Nat) : Int) := by rw [w64 (by omega) (by omega), wraps_u64 _ (by omega) (by omega)]; omega
    have hcl : (bytesL (checkV p s d t i b.length).toNat 2).length = 2 := bytesL_length _ _
    have hsl : (splice (headL p s d t i b.length) ((10 : Int).toNat) (bytesL (checkV p s d t i b.length).toNat 2)).length = 20 := by rw [length_splice _ _ _ (by rw [hcl, hhl]; decide), hhl]
    rw [if_neg (by omega), if_neg h1, e20, c1, Option.bind_some, wraps_u64 i i0 (by omega), c2, Option.bind_some, wraps_u64 s s0 (by omega), c3, Option.bind_some, wraps_u64 d d0 (by omega), c4, Option.bind_some, hc, Option.bind_some, if_pos (by omega), ho, Option.bind_some]
    show ((field_Cut.f (k + 80) (IntKind.u64.wrap (checkV p s d t i b.length)) 2).bind _) = _
    rw [wraps_u64 _ hcr.1 (by omega), c5, Option.bind_some, if_pos (by omega), Option.bind_some, if_pos (by rw [hsl]; omega)]
    unfold slices_Clip.f
    rw [Option.bind_some]
    congr 2
end Go.Proofs.Ytofjgdbiieanjaa.NetIp
