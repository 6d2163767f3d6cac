/-
  mantletlaw01.FieldSigns: Sign agrees with the reference.
  No condition: any bits, any size.
-/
import Derived.Test.YtjmdidbhocmhgaaFieldRef
namespace Go.Proofs.Ytjmdidbhocmhgaa.Pure
open Go.RowKit Go.Proofs.Ytjmdidbhocmhgaa.Fld Go.Proofs.Ytjmdidbhocmhgaa.Bits Go.Proofs.YtjmdidbhocmhgaaW.PrintWords Go.Proofs.YtjmdidbhocmhgaaW.PrintLast Go.Proofs.Ytjmdidbhocmhgaa.WordFld
theorem FieldSigns : mantletlaw01_FieldSigns.Pure := by
  intro v s hv hs
  obtain ⟨v0, v1⟩ := wf_u64 hv
  obtain ⟨s0, s1⟩ := wf_i64 hs
  refine ⟨200, ?_⟩
  unfold mantletlaw01_FieldSigns.f
  rw [awake, Option.bind_some, if_pos rfl]
  by_cases c : 1 ≤ s ∧ s ≤ 64
  · obtain ⟨v, rfl⟩ := Int.eq_ofNat_of_zero_le v0
    obtain ⟨s, rfl⟩ := Int.eq_ofNat_of_zero_le (show 0 ≤ s by omega)
    rw [sign_eq v s (by omega) (by omega), refSign_yes v s 132 (by omega) (by omega) (by omega), Option.bind_some, Option.bind_some, beq_self_eq_true]
  · rw [sign_no s0 s1 c, refSign_no 199 c, Option.bind_some, Option.bind_some, beq_self_eq_true]
end Go.Proofs.Ytjmdidbhocmhgaa.Pure
