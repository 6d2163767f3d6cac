import Derived.Test.YtofjgdbiieanjaaAllx7
import Derived.Test.YtofjgdbiieanjaaNetTurn
import Derived.Test.YtofjgdbiieanjaaAllx16
namespace Go.Proofs.Ytofjgdbiieanjaa.NetIcmp
open Go.RowKit Go.Proofs.Ytofjgdbiieanjaa.All Go.Proofs.Ytofjgdbiieanjaa.Ext Go.Proofs.Ytofjgdbiieanjaa.Bits Go.Proofs.YtofjgdbiieanjaaW.PrintWords Go.Proofs.YtofjgdbiieanjaaW.PrintLast Go.Proofs.Ytofjgdbiieanjaa.NetField Go.Proofs.Ytofjgdbiieanjaa.NetSum Go.Proofs.Ytofjgdbiieanjaa.NetRef
/-! What icmp and its reference come to. -/
theorem known_eq (x : Int) : icmp_known.f x = some (decide (x = 8 ∨ x = 0)) := by
  unfold icmp_known.f
  by_cases h : x = 8
  · rw [if_pos h, decide_eq_true (.inl h)]
  · rw [if_neg h]
    by_cases h0 : x = 0
    · rw [h0, decide_eq_true (.inr rfl)]; rfl
    · rw [beq_eq_false_iff_ne.2 h0, decide_eq_false (by omega)]
/-- What a message says, or what is wrong. -/
def parseV (l : List Int) : Int × Int × Int :=
  if l.length < 8 then (0, 0, 4) else if F (WL 0 l) ≠ 65535 then (0, 0, 7) else if (rd l 0 = 8 ∨ rd l 0 = 0) ∧ rd l 1 = 0 then (rd l 0, two l 4, 0) else (0, 0, 10)
theorem parse_eq (l : List Int) (k : Nat) (hb : Byte l) (hl : l.length ≤ 10000) : icmp_Parse.f (k + 11 + l.length) l = some (parseV l) := by
  unfold icmp_Parse.f parseV
  by_cases h8 : l.length < 8
  · rw [if_pos (by omega), if_pos h8]
  · rw [if_neg (by omega), if_neg h8, show k + 11 + l.length = (k + 6) + 5 + l.length by omega, add_eq l (s := 0) (k + 6) hb (by omega) (by omega) (by omega), Option.bind_some, Int.zero_add]
    by_cases hs : F (WL 0 l) = 65535
    · rw [if_pos hs, if_neg (show ¬ (F (WL 0 l) ≠ 65535) from fun h => h hs), if_pos (by omega), known_eq, Option.bind_some]
      by_cases hk : rd l 0 = 8 ∨ rd l 0 = 0
      · rw [decide_eq_true hk, if_pos rfl, if_pos (by omega)]
        by_cases h1 : rd l 1 = 0
        · have h2 := two_range hb (i := 4) (by omega)
          have hn := num2 (l := l) hb (i := 4) (k + 6 + 5 + l.length - 11) (by omega) (by omega)
          rw [show k + 6 + 5 + l.length - 11 + 11 = k + 6 + 5 + l.length by omega] at hn
          rw [if_pos h1, if_pos ⟨hk, h1⟩]
          rw [show ((4 : Nat) : Int) = 4 from rfl] at hn
          rw [hn, Option.bind_some]
          dsimp only
          rw [wrap_u16, Int.emod_eq_of_lt (by omega) (by omega)]
        · rw [if_neg h1, if_neg (fun h => h1 h.2)]
      · rw [decide_eq_false hk, if_neg (by decide), if_neg (fun h => hk h.1)]
    · rw [if_neg hs, if_pos hs]
end Go.Proofs.Ytofjgdbiieanjaa.NetIcmp
namespace Go.Proofs.Ytofjgdbiieanjaa.NetIcmp
open Go.RowKit Go.Proofs.Ytofjgdbiieanjaa.All Go.Proofs.Ytofjgdbiieanjaa.Ext Go.Proofs.Ytofjgdbiieanjaa.Bits Go.Proofs.YtofjgdbiieanjaaW.PrintWords Go.Proofs.YtofjgdbiieanjaaW.PrintLast Go.Proofs.Ytofjgdbiieanjaa.NetField Go.Proofs.Ytofjgdbiieanjaa.NetSum Go.Proofs.Ytofjgdbiieanjaa.NetRef
/-- The bytes ahead of what a message bears, its checksum not yet told. -/
def headL (a i : Int) : List Int := [a, 0, 0, 0, i / 256, i % 256, 0, 0]
/-- A message. -/
def buildL (a i : Int) (b : List Int) : List Int := [a, 0] ++ bytesL (65535 - F (WL 0 (headL a i ++ b))).toNat 2 ++ ([i / 256, i % 256, 0, 0] ++ b)
def buildV (a i : Int) (b : List Int) : List Int × Int := if a = 8 ∨ a = 0 then (if b.length > 1472 then ([], 2) else (buildL a i b, 0)) else ([], 10)
theorem head_byte {a i : Int} (a0 : 0 ≤ a) (a1 : a < 256) (i0 : 0 ≤ i) (i1 : i < 65536) : Byte (headL a i) := by
  unfold headL
  intro x hx
  simp only [List.mem_cons, List.not_mem_nil, or_false] at hx
  omega
theorem cut8 {a i : Int} (a0 : 0 ≤ a) (a1 : a < 256) (i0 : 0 ≤ i) (i1 : i < 65536) (k : Nat) :
    field_Cut.f (k + 11) (Go.bits .or .u64 (IntKind.u64.wrap ((IntKind.u64.wrap a) * 72057594037927936)) (IntKind.u64.wrap ((IntKind.u64.wrap i) * 65536))) 8 = some (headL a i) := by
  obtain ⟨a, rfl⟩ := Int.eq_ofNat_of_zero_le a0
  obtain ⟨i, rfl⟩ := Int.eq_ofNat_of_zero_le i0
  have e1 : IntKind.u64.wrap ((IntKind.u64.wrap (a : Int)) * 72057594037927936) = (a : Int) * 72057594037927936 := by
    rw [wrap_u64, wrap_u64]; omega
  have e2 : IntKind.u64.wrap ((IntKind.u64.wrap (i : Int)) * 65536) = (i : Int) * 65536 := by rw [wrap_u64, wrap_u64]; omega
  rw [e1, e2, or_join 56 (by omega) (by omega) (by omega) (by omega) (by omega) (by omega)]
  have h := cut_yes (a * 72057594037927936 + i * 65536) 8 k (by omega) (by omega)
  rw [show ((a * 72057594037927936 + i * 65536 : Nat) : Int) = (a : Int) * 72057594037927936 + (i : Int) * 65536 by omega] at h
  rw [show ((8 : Nat) : Int) = 8 from rfl] at h
  rw [h]
  simp only [bytesL, headL]
  congr 1
  have p : ∀ m : Nat, 2 ^ (8 * m) = 256 ^ m := fun m => by rw [Nat.pow_mul]
  simp only [Nat.reduceMul, Nat.reducePow]
  refine List.cons_eq_cons.2 ⟨by omega, List.cons_eq_cons.2 ⟨by omega, List.cons_eq_cons.2 ⟨by omega, List.cons_eq_cons.2 ⟨by omega, List.cons_eq_cons.2 ⟨by omega, List.cons_eq_cons.2 ⟨by omega, List.cons_eq_cons.2 ⟨by omega, List.cons_eq_cons.2 ⟨by omega, rfl⟩⟩⟩⟩⟩⟩⟩⟩
theorem build_eq {a i : Int} (b : List Int) (k : Nat) (a0 : 0 ≤ a) (a1 : a < 256) (i0 : 0 ≤ i) (i1 : i < 65536) (hb : Byte b) (hl : b.length ≤ 10000) :
    icmp_Build.f (k + 40 + b.length) a i b = some (buildV a i b) := by
  have hh := head_byte a0 a1 i0 i1
  have hlen : (headL a i).length = 8 := rfl
  have hf := F_range (WL 0 (headL a i ++ b))
  unfold icmp_Build.f buildV
  rw [known_eq, Option.bind_some]
  by_cases hk : a = 8 ∨ a = 0
  · rw [decide_eq_true hk, if_pos rfl, if_pos hk]
    by_cases h1 : b.length > 1472
    · rw [if_pos (by omega), if_pos h1]
    · have hc := concat_eq [headL a i, b] (k + 34 + b.length) (by simp) (by simp [hlen]; omega)
      have ho := of_eq (headL a i ++ b) (k + 27) (byte_app hh hb) (by rw [List.length_append]; omega)
      have h2 := cut_yes (65535 - F (WL 0 (headL a i ++ b))).toNat 2 (k + 29 + b.length) (by omega) (by omega)
      simp only [List.length_cons, List.length_nil, List.flatten_cons, List.flatten_nil, List.append_nil] at hc
      rw [List.length_append, hlen] at ho
      rw [show k + 34 + b.length + 2 + (0 + 1 + 1) + (0 + 1 + 1) = k + 40 + b.length by omega] at hc
      rw [show k + 27 + 5 + (8 + b.length) = k + 40 + b.length by omega] at ho
      rw [show k + 29 + b.length + 11 = k + 40 + b.length by omega] at h2
      rw [show (((65535 - F (WL 0 (headL a i ++ b))).toNat : Nat) : Int) = 65535 - F (WL 0 (headL a i ++ b)) by omega, show ((2 : Nat) : Int) = 2 from rfl] at h2
      rw [if_neg (by omega), if_neg h1, show k + 40 + b.length = (k + 29 + b.length) + 11 by omega, cut8 a0 a1 i0 i1, Option.bind_some, show (k + 29 + b.length) + 11 = k + 40 + b.length by omega, hc, Option.bind_some, if_pos (by rw [List.length_append]; omega), ho, Option.bind_some, wraps_u64 _ (by omega) (by omega), h2, Option.bind_some,
        if_pos (by rw [bytesL_length, List.length_append]; omega)]
      unfold slices_Clip.f
      rw [Option.bind_some]
      congr 2
  · rw [decide_eq_false hk, if_neg (by decide), if_neg hk]
end Go.Proofs.Ytofjgdbiieanjaa.NetIcmp
namespace Go.Proofs.Ytofjgdbiieanjaa.NetIcmp
open Go.RowKit Go.Proofs.Ytofjgdbiieanjaa.All Go.Proofs.Ytofjgdbiieanjaa.Bits Go.Proofs.YtofjgdbiieanjaaW.PrintWords Go.Proofs.YtofjgdbiieanjaaW.PrintLast Go.Proofs.Ytofjgdbiieanjaa.NetSum Go.Proofs.Ytofjgdbiieanjaa.NetField Go.Proofs.Ytofjgdbiieanjaa.NetRef Go.Proofs.Ytofjgdbiieanjaa.NetTurn
/-! What is built is whole, and says what it was built of. -/
theorem icmp_list {a i : Int} (b : List Int) : buildL a i b = a :: 0 :: (65535 - F (WL 0 (headL a i ++ b))) / 256 :: (65535 - F (WL 0 (headL a i ++ b))) % 256 :: (i / 256) :: (i % 256) :: 0 :: 0 :: b := by
  have hf := F_range (WL 0 (headL a i ++ b))
  unfold buildL
  rw [two_bytes (by omega) (by omega)]
  rfl
theorem icmp_sum {a i : Int} (b : List Int) (a0 : 0 ≤ a) (a1 : a < 256) (i0 : 0 ≤ i) (i1 : i < 65536) (hb : Byte b) : F (WL 0 (buildL a i b)) = 65535 := by
  have hw := WL_nonneg (headL a i ++ b) 0 (byte_app (head_byte a0 a1 i0 i1) hb)
  have hf := F_range (WL 0 (headL a i ++ b))
  have e : WL 0 (buildL a i b) = WL 0 (headL a i ++ b) + (65535 - F (WL 0 (headL a i ++ b))) := by
    rw [icmp_list]
    generalize 65535 - F (WL 0 (headL a i ++ b)) = c
    unfold headL
    simp only [WL, List.cons_append, List.nil_append]
    simp only [Nat.reduceAdd, Nat.reduceMod, if_true, if_false, Nat.one_ne_zero]
    omega
  rw [e]
  exact whole hw
theorem icmp_byte {a i : Int} (b : List Int) (a0 : 0 ≤ a) (a1 : a < 256) (i0 : 0 ≤ i) (i1 : i < 65536) (hb : Byte b) : Byte (buildL a i b) := by
  have hf := F_range (WL 0 (headL a i ++ b))
  rw [icmp_list]
  exact byte_cons (by omega) (byte_cons (by omega) (byte_cons (by omega) (byte_cons (by omega) (byte_cons (by omega) (byte_cons (by omega) (byte_cons (by omega) (byte_cons (by omega) hb)))))))
theorem icmp_length {a i : Int} (b : List Int) : (buildL a i b).length = 8 + b.length := by rw [icmp_list]; simp; omega
theorem icmp_parsed {a i : Int} (b : List Int) (a0 : 0 ≤ a) (a1 : a < 256) (i0 : 0 ≤ i) (i1 : i < 65536) (hb : Byte b) (hk : a = 8 ∨ a = 0) : parseV (buildL a i b) = (a, i, 0) := by
  have hr0 : rd (buildL a i b) 0 = a := by rw [icmp_list]; rfl
  have hr1 : rd (buildL a i b) 1 = 0 := by rw [icmp_list]; rfl
  have h4 : two (buildL a i b) 4 = i := by
    unfold two
    rw [show rd (buildL a i b) ((4 : Nat) : Int) = i / 256 by rw [icmp_list]; rfl, show rd (buildL a i b) ((4 + 1 : Nat) : Int) = i % 256 by rw [icmp_list]; rfl]
    omega
  unfold parseV
  rw [if_neg (by rw [icmp_length]; omega), if_neg (fun h => h (icmp_sum b a0 a1 i0 i1 hb)), hr0, hr1, h4, if_pos ⟨hk, rfl⟩]
end Go.Proofs.Ytofjgdbiieanjaa.NetIcmp
