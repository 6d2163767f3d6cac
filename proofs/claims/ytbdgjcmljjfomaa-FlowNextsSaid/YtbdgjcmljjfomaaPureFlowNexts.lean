/-
  mantletlaw15.FlowNexts: Next of a flow agrees with the reference.
  No condition: any word, any state, any time.
-/
import Derived.Test.YtbdgjcmljjfomaaFlowWord
namespace Go.Proofs.Ytbdgjcmljjfomaa.Pure
open Go.RowKit Go.Proofs.Ytbdgjcmljjfomaa.Flo Go.Proofs.Ytbdgjcmljjfomaa.Bits Go.Proofs.YtbdgjcmljjfomaaW.PrintWords Go.Proofs.YtbdgjcmljjfomaaW.PrintLast Go.Proofs.Ytbdgjcmljjfomaa.WordFlo
theorem refJ {s q : Int} (n u : Int) (h0 : 0 ≤ s) (h1 : s ≤ 15) (h2 : 0 ≤ q) (h3 : q ≤ 1048575) (k : Nat) :
    mantletref15_Next.j0 (k + 1) n s q u = some (s * 1152921504606846976 + q * 1099511627776 + till n) := by
  have ht := till_range n
  have hp : packV s q (till n) = some (s * 1152921504606846976 + q * 1099511627776 + till n, 0) := by unfold packV; rw [if_pos (by omega)]
  simp only [mantletref15_Next.j0]
  by_cases c1 : n < 0
  · have e : till n = 0 := by unfold till; rw [if_pos c1]
    rw [if_pos c1, if_neg (by omega), refPack]
    rw [e] at hp ⊢
    rw [hp, Option.bind_some]
  · rw [if_neg c1]
    by_cases c2 : n ≥ 1099511627776
    · have e : till n = 1099511627775 := by unfold till; rw [if_neg c1, if_pos c2]
      rw [if_pos c2, refPack]
      rw [e] at hp ⊢
      rw [hp, Option.bind_some]
    · have e : till n = n := by unfold till; rw [if_neg c1, if_neg c2]
      rw [if_neg c2, refPack]
      rw [e] at hp ⊢
      rw [hp, Option.bind_some]
theorem FlowNexts : mantletlaw15_FlowNexts.Pure := by
  intro w s n hw _ _
  obtain ⟨h0, h2⟩ := wf_u64 hw
  refine ⟨1, ?_⟩
  unfold mantletlaw15_FlowNexts.f
  have er : mantletref15_Next.f 1 w s n = some (nextV w s n) := by
    unfold mantletref15_Next.f
    rw [refUnpack h0 h2, Option.bind_some]
    dsimp only
    have e1 : wrap64 (Int.tmod (IntKind.u64.wrap s) 16) = s % 16 := by
      rw [wrap_u64, Int.tmod_eq_emod_of_nonneg (by omega), w64 (by omega) (by omega)]
      omega
    rw [e1]
    unfold nextV onward
    by_cases c : w / 1099511627776 % 1048576 < 1048575
    · rw [if_pos c, if_pos c, w64 (by omega) (by omega)]
      exact refJ n _ (by omega) (by omega) (by omega) (by omega) 0
    · rw [if_neg c, if_neg c]
      exact refJ n _ (by omega) (by omega) (by omega) (by omega) 0
  rw [awake, Option.bind_some, if_pos rfl, next_eq s n h0 h2, er, Option.bind_some, Option.bind_some, beq_self_eq_true]
end Go.Proofs.Ytbdgjcmljjfomaa.Pure
