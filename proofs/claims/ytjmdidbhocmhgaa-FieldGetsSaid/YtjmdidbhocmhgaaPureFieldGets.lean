/-
  mantletlaw01.FieldGets: Get and Put of a field agree with the reference.
  No condition: any word, any place, any size, any value.
-/
import Derived.Test.YtjmdidbhocmhgaaFieldRef
namespace Go.Proofs.Ytjmdidbhocmhgaa.Pure
open Go.RowKit Go.Proofs.Ytjmdidbhocmhgaa.Fld Go.Proofs.Ytjmdidbhocmhgaa.Bits Go.Proofs.YtjmdidbhocmhgaaW.PrintWords Go.Proofs.YtjmdidbhocmhgaaW.PrintLast Go.Proofs.Ytjmdidbhocmhgaa.WordFld
theorem FieldGets : mantletlaw01_FieldGets.Pure := by
  intro w a s v hw _ hs hv
  obtain ⟨w0, w1⟩ := wf_u64 hw
  obtain ⟨v0, v1⟩ := wf_u64 hv
  obtain ⟨s0, s1⟩ := wf_i64 hs
  refine ⟨200, ?_⟩
  unfold mantletlaw01_FieldGets.f
  rw [awake, Option.bind_some, if_pos rfl]
  by_cases c : 0 ≤ a ∧ 1 ≤ s ∧ s ≤ 64 ∧ a ≤ 64 - s
  · obtain ⟨c0, c1, c2, c3⟩ := c
    obtain ⟨w, rfl⟩ := Int.eq_ofNat_of_zero_le w0
    obtain ⟨v, rfl⟩ := Int.eq_ofNat_of_zero_le v0
    obtain ⟨a, rfl⟩ := Int.eq_ofNat_of_zero_le c0
    obtain ⟨s, rfl⟩ := Int.eq_ofNat_of_zero_le (show 0 ≤ s by omega)
    rw [get_nat w a s (by omega) (by omega) (by omega), refGet_yes w a s 133 (by omega) (by omega) (by omega), put_eq w a s v (by omega) (by omega) (by omega), refPut_yes w a s v 134 (by omega) (by omega) (by omega) (by omega)]
    rw [Option.bind_some, Option.bind_some, if_pos rfl, Option.bind_some, Option.bind_some, beq_self_eq_true]
  · rw [get_no s0 s1 c, refGet_no 199 c, put_no s0 s1 c, refPut_no 199 c]
    rw [Option.bind_some, Option.bind_some, if_pos rfl, Option.bind_some, Option.bind_some, beq_self_eq_true]
end Go.Proofs.Ytjmdidbhocmhgaa.Pure
