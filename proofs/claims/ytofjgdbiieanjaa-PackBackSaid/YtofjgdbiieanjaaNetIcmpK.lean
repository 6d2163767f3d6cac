import Derived.Test.YtofjgdbiieanjaaNetIcmpB
import Derived.Test.YtofjgdbiieanjaaNetTurn
namespace Go.Proofs.Ytofjgdbiieanjaa.NetIcmp
open Go.RowKit Go.Proofs.Ytofjgdbiieanjaa.All Go.Proofs.Ytofjgdbiieanjaa.Bits Go.Proofs.YtofjgdbiieanjaaW.PrintWords Go.Proofs.YtofjgdbiieanjaaW.PrintLast Go.Proofs.Ytofjgdbiieanjaa.NetSum Go.Proofs.Ytofjgdbiieanjaa.NetField Go.Proofs.Ytofjgdbiieanjaa.NetRef Go.Proofs.Ytofjgdbiieanjaa.NetTurn
/-! What is built is whole, and says what it was built of. -/
theorem icmp_list {a i : Int} (b : List Int) : buildL a i b = a :: 0 :: (65535 - F (WL 0 (headL a i ++ b))) / 256 :: (65535 - F (WL 0 (headL a i ++ b))) % 256 :: (i / 256) :: (i % 256) :: 0 :: 0 :: b := by
  have hf := F_range (WL 0 (headL a i ++ b))
  unfold buildL
  rw [two_bytes (by omega) (by omega)]
  rfl
theorem icmp_sum {a i : Int} (b : List Int) (a0 : 0 ≤ a) (a1 : a < 256) (i0 : 0 ≤ i) (i1 : i < 65536) (hb : Byte b) : F (WL 0 (buildL a i b)) = 65535 := by
  have hw := WL_nonneg (headL a i ++ b) 0 (byte_app (head_byte a0 a1 i0 i1) hb)
  have hf := F_range (WL 0 (headL a i ++ b))
  have e : WL 0 (buildL a i b) = WL 0 (headL a i ++ b) + (65535 - F (WL 0 (headL a i ++ b))) := by
    rw [icmp_list]
    generalize 65535 - F (WL 0 (headL a i ++ b)) = c
    unfold headL
    simp only [WL, List.cons_append, List.nil_append]
    simp only [Nat.reduceAdd, Nat.reduceMod, if_true, if_false, Nat.one_ne_zero]
    omega
  rw [e]
  exact whole hw
theorem icmp_byte {a i : Int} (b : List Int) (a0 : 0 ≤ a) (a1 : a < 256) (i0 : 0 ≤ i) (i1 : i < 65536) (hb : Byte b) : Byte (buildL a i b) := by
  have hf := F_range (WL 0 (headL a i ++ b))
  rw [icmp_list]
  exact byte_cons (by omega) (byte_cons (by omega) (byte_cons (by omega) (byte_cons (by omega) (byte_cons (by omega) (byte_cons (by omega) (byte_cons (by omega) (byte_cons (by omega) hb)))))))
theorem icmp_length {a i : Int} (b : List Int) : (buildL a i b).length = 8 + b.length := by rw [icmp_list]; simp; omega
theorem icmp_parsed {a i : Int} (b : List Int) (a0 : 0 ≤ a) (a1 : a < 256) (i0 : 0 ≤ i) (i1 : i < 65536) (hb : Byte b) (hk : a = 8 ∨ a = 0) : parseV (buildL a i b) = (a, i, 0) := by
  have hr0 : rd (buildL a i b) 0 = a := by rw [icmp_list]; rfl
  have hr1 : rd (buildL a i b) 1 = 0 := by rw [icmp_list]; rfl
  have h4 : two (buildL a i b) 4 = i := by
    unfold two
    rw [show rd (buildL a i b) ((4 : Nat) : Int) = i / 256 by rw [icmp_list]; rfl, show rd (buildL a i b) ((4 + 1 : Nat) : Int) = i % 256 by rw [icmp_list]; rfl]
    omega
  unfold parseV
  rw [if_neg (by rw [icmp_length]; omega), if_neg (fun h => h (icmp_sum b a0 a1 i0 i1 hb)), hr0, hr1, h4, if_pos ⟨hk, rfl⟩]
end Go.Proofs.Ytofjgdbiieanjaa.NetIcmp
