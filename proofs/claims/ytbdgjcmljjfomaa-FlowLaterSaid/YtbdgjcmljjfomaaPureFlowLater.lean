/-
  mantletlaw15.FlowLater: a flow that is over stays over as time goes on; a flow that continues never has an earlier word again.
  No condition: any word, any clock, any states and times.
-/
import Derived.Test.YtbdgjcmljjfomaaFlowWord
namespace Go.Proofs.Ytbdgjcmljjfomaa.Pure
open Go.RowKit Go.Proofs.Ytbdgjcmljjfomaa.Flo Go.Proofs.Ytbdgjcmljjfomaa.Bits Go.Proofs.YtbdgjcmljjfomaaW.PrintWords Go.Proofs.YtbdgjcmljjfomaaW.PrintLast Go.Proofs.Ytbdgjcmljjfomaa.WordFlo
/-- Which number a flow's word has. -/
def nth (w : Int) : Int := w / 1099511627776 % 1048576
theorem next_word {w : Int} (s n : Int) (hn : nth w ≠ 1048575) : 0 ≤ nextV w s n ∧ nextV w s n < 18446744073709551616 ∧ nth (nextV w s n) = nth w + 1 := by
  have ht := till_range n
  have ho : onward (w / 1099511627776 % 1048576) = w / 1099511627776 % 1048576 + 1 := by unfold onward; unfold nth at hn; rw [if_pos (by omega)]
  unfold nth at *
  unfold nextV
  rw [ho]
  omega
/-- The search among what was met: nothing is found. -/
theorem search (w : Int) (l3 l4 met : List Int) (i : Int) (hm : ∀ x ∈ met, x ≠ w) (hl : met.length < 17592186044416) (d : Nat) :
    ∀ (k : Nat) (j : Int), 0 ≤ j → j + d = met.length → mantletlaw15_FlowLater.l1 (k + 1 + d) w l3 l4 met i j = mantletlaw15_FlowLater.l0 k w l3 l4 (met ++ [w]) (wrap64 (i + 1)) := by
  induction d with
  | zero =>
    intro k j h0 h
    simp only [mantletlaw15_FlowLater.l1]
    rw [if_neg (by omega), if_pos hl]
  | succ d ih =>
    intro k j h0 h
    rw [show k + 1 + (d + 1) = (k + 1 + d) + 1 by omega]
    simp only [mantletlaw15_FlowLater.l1]
    have hne : rd met j ≠ w := by
      have hj : j.toNat < met.length := by omega
      unfold rd
      rw [List.getD_eq_getElem?_getD, List.getElem?_eq_getElem hj, Option.getD_some]
      exact hm _ (List.getElem_mem hj)
    rw [if_pos (by omega), if_pos h0, if_neg hne, w64 (by omega) (by omega)]
    exact ih k (j + 1) (by omega) (by omega)
theorem rounds (l3 l4 : List Int) (d : Nat) : ∀ (w : Int) (met : List Int) (i : Int), 0 ≤ w → w < 18446744073709551616 → 0 ≤ i → i + d = 40 → met.length = i + 1 → (∀ x ∈ met, nth x ≤ nth w) →
    ∃ k, mantletlaw15_FlowLater.l0 k w l3 l4 met i = some true := by
  induction d with
  | zero =>
    intro w met i _ _ _ hi _ _
    refine ⟨2, ?_⟩
    have hz : decide (i < 40) = false := decide_eq_false (by omega)
    simp only [mantletlaw15_FlowLater.l0, mantletlaw15_FlowLater.j2, hz]
    rw [awake]
    simp
  | succ d ih =>
    intro w met i h0 h2 hi hd hl hm
    by_cases c : i < (l3.length : Int) ∧ i < (l4.length : Int) ∧ nth w ≠ 1048575
    · obtain ⟨c1, c2, c3⟩ := c
      obtain ⟨n0, n1, n2⟩ := next_word (wrap64 (rd l3 i)) (wrap64 (rd l4 i)) c3
      obtain ⟨k, hk⟩ := ih (nextV w (wrap64 (rd l3 i)) (wrap64 (rd l4 i))) (met ++ [nextV w (wrap64 (rd l3 i)) (wrap64 (rd l4 i))]) (i + 1) n0 n1 (by omega) (by omega) (by simp; omega) (by
        intro x hx
        rcases List.mem_append.mp hx with hx | hx
        · have := hm x hx; omega
        · rw [List.mem_singleton] at hx; rw [hx]; exact Int.le_refl _)
      refine ⟨k + 1 + met.length + 1 + 1, ?_⟩
      have hs := search (nextV w (wrap64 (rd l3 i)) (wrap64 (rd l4 i))) l3 l4 met i (by
        intro x hx e
        have := hm x hx
        rw [e] at this
        omega) (by omega) met.length k 0 (by omega) (by omega)
      have hz : decide (i < 40) = true := decide_eq_true (by omega)
      simp only [mantletlaw15_FlowLater.l0]
      rw [if_pos c1, if_pos c2, hz]
      simp only [mantletlaw15_FlowLater.j2]
      rw [if_pos trivial, unpack_eq h0 h2, Option.bind_some]
      dsimp only
      rw [if_neg (show ¬ w / 1099511627776 % 1048576 = 1048575 from c3), if_pos hi, if_pos c1, if_pos c2, next_eq _ _ h0 h2, Option.bind_some, hs, w64 (n := i + 1) (by omega) (by omega)]
      exact hk
    · refine ⟨2, ?_⟩
      simp only [mantletlaw15_FlowLater.l0, mantletlaw15_FlowLater.j2]
      rw [awake, unpack_eq h0 h2]
      simp only [Option.bind_some, Bool.false_eq_true, if_false, decide_eq_true_eq]
      by_cases c1 : i < (l3.length : Int)
      · rw [if_pos c1]
        by_cases c2 : i < (l4.length : Int)
        · have c3 : w / 1099511627776 % 1048576 = 1048575 := by
            unfold nth at c
            omega
          rw [if_pos c2, if_pos c3, ite_self]
        · rw [if_neg c2]
      · rw [if_neg c1]
theorem FlowLater : mantletlaw15_FlowLater.Pure := by
  intro w n m l3 l4 hw hn hm _ _ _ _ _ _
  obtain ⟨h0, h2⟩ := wf_u64 hw
  obtain ⟨n0, n2⟩ := wf_i64 hn
  obtain ⟨m0, m2⟩ := wf_u16 hm
  unfold mantletlaw15_FlowLater.f
  by_cases c : n > 1125899906842624
  · refine ⟨0, ?_⟩
    rw [if_pos c, awake]
    rfl
  · obtain ⟨k, hk⟩ := rounds l3 l4 40 w [w] 0 h0 h2 (by omega) (by omega) (by simp) (by
      intro x hx
      rw [List.mem_singleton] at hx
      rw [hx]
      exact Int.le_refl _)
    refine ⟨k + 1, ?_⟩
    have hj : mantletlaw15_FlowLater.j0 (k + 1) w l3 l4 false = some true := by
      simp only [mantletlaw15_FlowLater.j0]
      rw [if_neg (by decide)]
      exact hk
    rw [if_neg c, over_eq n h0 h2, Option.bind_some, w64 (n := m) (by omega) (by omega), w64 (by omega) (by omega), over_eq (n + m) h0 h2, Option.bind_some]
    by_cases d : w / 1152921504606846976 = 0 ∨ w / 1152921504606846976 = 15 ∨ w % 1099511627776 ≤ n ∨ w / 1099511627776 % 1048576 = 1048575
    · rw [decide_eq_true d, if_pos rfl, decide_eq_true (by omega)]
      exact hj
    · rw [decide_eq_false d, if_neg (by decide)]
      exact hj
end Go.Proofs.Ytbdgjcmljjfomaa.Pure
