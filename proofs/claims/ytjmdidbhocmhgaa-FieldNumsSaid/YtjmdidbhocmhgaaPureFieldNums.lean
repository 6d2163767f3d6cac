/-
  mantletlaw01.FieldNums: Num and Cut agree with the reference.
  No condition: any bytes, any place, any size, any number.
-/
import Derived.Test.YtjmdidbhocmhgaaFieldRef
namespace Go.Proofs.Ytjmdidbhocmhgaa.Pure
open Go.RowKit Go.Proofs.Ytjmdidbhocmhgaa.Fld Go.Proofs.Ytjmdidbhocmhgaa.Bits Go.Proofs.YtjmdidbhocmhgaaW.PrintWords Go.Proofs.YtjmdidbhocmhgaaW.PrintLast Go.Proofs.Ytjmdidbhocmhgaa.WordFld
theorem FieldNums : mantletlaw01_FieldNums.Pure := by
  intro l a s v _ hl2 hb _ _ hv
  obtain ⟨v0, v1⟩ := wf_u64 hv
  have hbs : ∀ x ∈ l, 0 ≤ x ∧ x < 256 := fun x hx => wf_u8 (hb x hx)
  refine ⟨200, ?_⟩
  have h1 : ∃ n b, field_Num.f 200 l a s = some (n, b) ∧ mantletref01_Num.f 200 l a s = some (n, b) := by
    by_cases c : 0 ≤ a ∧ 1 ≤ s ∧ s ≤ 8 ∧ a ≤ l.length - s
    · obtain ⟨c0, c1, c2, c3⟩ := c
      obtain ⟨a, rfl⟩ := Int.eq_ofNat_of_zero_le c0
      obtain ⟨s, rfl⟩ := Int.eq_ofNat_of_zero_le (show 0 ≤ s by omega)
      exact ⟨_, _, num_yes l a s 189 hbs (by omega) (by omega) (by omega) (by omega), refNum_yes l a s 189 hbs (by omega) (by omega) (by omega) (by omega)⟩
    · exact ⟨_, _, num_no 199 c (by omega), refNum_no 199 c (by omega)⟩
  have h2 : ∃ y, field_Cut.f 200 v s = some y ∧ mantletref01_Cut.f 200 v s = some y := by
    by_cases c : 1 ≤ s ∧ s ≤ 8
    · obtain ⟨v, rfl⟩ := Int.eq_ofNat_of_zero_le v0
      obtain ⟨s, rfl⟩ := Int.eq_ofNat_of_zero_le (show 0 ≤ s by omega)
      exact ⟨_, cut_yes v s 189 (by omega) (by omega), refCut_yes v s 189 (by omega) (by omega)⟩
    · exact ⟨_, cut_no 199 c, refCut_no 199 c⟩
  obtain ⟨n, b, e1, e2⟩ := h1
  obtain ⟨y, e3, e4⟩ := h2
  unfold mantletlaw01_FieldNums.f
  rw [e1, e2, awake, e3, e4, Option.bind_some, Option.bind_some, Option.bind_some]
  dsimp only
  rw [if_pos rfl, if_pos rfl, beq_self_eq_true, if_pos rfl, Option.bind_some, Option.bind_some, beq_self_eq_true]
end Go.Proofs.Ytjmdidbhocmhgaa.Pure
