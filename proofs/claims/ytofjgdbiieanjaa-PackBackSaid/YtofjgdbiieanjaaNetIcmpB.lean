import Derived.Test.YtofjgdbiieanjaaAllx16
import Derived.Test.YtofjgdbiieanjaaNetIcmp
namespace Go.Proofs.Ytofjgdbiieanjaa.NetIcmp
open Go.RowKit Go.Proofs.Ytofjgdbiieanjaa.All Go.Proofs.Ytofjgdbiieanjaa.Ext Go.Proofs.Ytofjgdbiieanjaa.Bits Go.Proofs.YtofjgdbiieanjaaW.PrintWords Go.Proofs.YtofjgdbiieanjaaW.PrintLast Go.Proofs.Ytofjgdbiieanjaa.NetField Go.Proofs.Ytofjgdbiieanjaa.NetSum Go.Proofs.Ytofjgdbiieanjaa.NetRef
/-- The bytes ahead of what a message bears, its checksum not yet told. -/
def headL (a i : Int) : List Int := [a, 0, 0, 0, i / 256, i % 256, 0, 0]
/-- A message. -/
def buildL (a i : Int) (b : List Int) : List Int := [a, 0] ++ bytesL (65535 - F (WL 0 (headL a i ++ b))).toNat 2 ++ ([i / 256, i % 256, 0, 0] ++ b)
def buildV (a i : Int) (b : List Int) : List Int × Int := if a = 8 ∨ a = 0 then (if b.length > 1472 then ([], 2) else (buildL a i b, 0)) else ([], 10)
theorem head_byte {a i : Int} (a0 : 0 ≤ a) (a1 : a < 256) (i0 : 0 ≤ i) (i1 : i < 65536) : Byte (headL a i) := by
  unfold headL
  intro x hx
  simp only [List.mem_cons, List.not_mem_nil, or_false] at hx
  omega
theorem cut8 {a i : Int} (a0 : 0 ≤ a) (a1 : a < 256) (i0 : 0 ≤ i) (i1 : i < 65536) (k : Nat) :
    field_Cut.f (k + 11) (Go.bits .or .u64 (IntKind.u64.wrap ((IntKind.u64.wrap a) * 72057594037927936)) (IntKind.u64.wrap ((IntKind.u64.wrap i) * 65536))) 8 = some (headL a i) := by
  obtain ⟨a, rfl⟩ := Int.eq_ofNat_of_zero_le a0
  obtain ⟨i, rfl⟩ := Int.eq_ofNat_of_zero_le i0
  have e1 : IntKind.u64.wrap ((IntKind.u64.wrap (a : Int)) * 72057594037927936) = (a : Int) * 72057594037927936 := by
    rw [wrap_u64, wrap_u64]; omega
  have e2 : IntKind.u64.wrap ((IntKind.u64.wrap (i : Int)) * 65536) = (i : Int) * 65536 := by rw [wrap_u64, wrap_u64]; omega
  rw [e1, e2, or_join 56 (by omega) (by omega) (by omega) (by omega) (by omega) (by omega)]
  have h := cut_yes (a * 72057594037927936 + i * 65536) 8 k (by omega) (by omega)
  rw [show ((a * 72057594037927936 + i * 65536 : Nat) : Int) = (a : Int) * 72057594037927936 + (i : Int) * 65536 by omega] at h
  rw [show ((8 : Nat) : Int) = 8 from rfl] at h
  rw [h]
  simp only [bytesL, headL]
  congr 1
  have p : ∀ m : Nat, 2 ^ (8 * m) = 256 ^ m := fun m => by rw [Nat.pow_mul]
  simp only [Nat.reduceMul, Nat.reducePow]
  refine List.cons_eq_cons.2 ⟨by omega, List.cons_eq_cons.2 ⟨by omega, List.cons_eq_cons.2 ⟨by omega, List.cons_eq_cons.2 ⟨by omega, List.cons_eq_cons.2 ⟨by omega, List.cons_eq_cons.2 ⟨by omega, List.cons_eq_cons.2 ⟨by omega, List.cons_eq_cons.2 ⟨by omega, rfl⟩⟩⟩⟩⟩⟩⟩⟩
theorem build_eq {a i : Int} (b : List Int) (k : Nat) (a0 : 0 ≤ a) (a1 : a < 256) (i0 : 0 ≤ i) (i1 : i < 65536) (hb : Byte b) (hl : b.length ≤ 10000) :
    icmp_Build.f (k + 40 + b.length) a i b = some (buildV a i b) := by
  have hh := head_byte a0 a1 i0 i1
  have hlen : (headL a i).length = 8 := rfl
  have hf := F_range (WL 0 (headL a i ++ b))
  unfold icmp_Build.f buildV
  rw [known_eq, Option.bind_some]
  by_cases hk : a = 8 ∨ a = 0
  · rw [decide_eq_true hk, if_pos rfl, if_pos hk]
    by_cases h1 : b.length > 1472
    · rw [if_pos (by omega), if_pos h1]
    · have hc := concat_eq [headL a i, b] (k + 34 + b.length) (by simp) (by simp [hlen]; omega)
      have ho := of_eq (headL a i ++ b) (k + 27) (byte_app hh hb) (by rw [List.length_append]; omega)
      have h2 := cut_yes (65535 - F (WL 0 (headL a i ++ b))).toNat 2 (k + 29 + b.length) (by omega) (by omega)
      simp only [List.length_cons, List.length_nil, List.flatten_cons, List.flatten_nil, List.append_nil] at hc
      rw [List.length_append, hlen] at ho
      rw [show k + 34 + b.length + 2 + (0 + 1 + 1) + (0 + 1 + 1) = k + 40 + b.length by omega] at hc
      rw [show k + 27 + 5 + (8 + b.length) = k + 40 + b.length by omega] at ho
      rw [show k + 29 + b.length + 11 = k + 40 + b.length by omega] at h2
      rw [show (((65535 - F (WL 0 (headL a i ++ b))).toNat : Nat) : Int) = 65535 - F (WL 0 (headL a i ++ b)) by omega, show ((2 : Nat) : Int) = 2 from rfl] at h2
      rw [if_neg (by omega), if_neg h1, show k + 40 + b.length = (k + 29 + b.length) + 11 by omega, cut8 a0 a1 i0 i1, Option.bind_some, show (k + 29 + b.length) + 11 = k + 40 + b.length by omega, hc, Option.bind_some, if_pos (by rw [List.length_append]; omega), ho, Option.bind_some, wraps_u64 _ (by omega) (by omega), h2, Option.bind_some,
        if_pos (by rw [bytesL_length, List.length_append]; omega)]
      unfold slices_Clip.f
      rw [Option.bind_some]
      congr 2
  · rw [decide_eq_false hk, if_neg (by decide), if_neg hk]
end Go.Proofs.Ytofjgdbiieanjaa.NetIcmp
