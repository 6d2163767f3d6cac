/-
  mantletlaw14.GateApart: each of Tick, Enter, Leave and Swap changes one field only; Enter and Leave cancel; the clock never decreases.
  No condition: any word, any numbers.
-/
import Derived.Test.YtbdgjcmljjfomaaGateRef
namespace Go.Proofs.Ytbdgjcmljjfomaa.Pure
open Go.RowKit Go.Proofs.Ytbdgjcmljjfomaa.Gat Go.Proofs.Ytbdgjcmljjfomaa.Bits Go.Proofs.YtbdgjcmljjfomaaW.PrintWords Go.Proofs.YtbdgjcmljjfomaaW.PrintLast Go.Proofs.Ytbdgjcmljjfomaa.WordGat
theorem apart_swap {w : Int} (h0 : 0 ≤ w) (h2 : w < 18446744073709551616) (k : Nat) :
    mantletlaw14_GateApart.j1 (k + 1) w false (w / 4503599627370496) (w / 1099511627776 % 4096) (w % 1099511627776) = some true := by
  simp only [mantletlaw14_GateApart.j1]
  rw [if_neg (by decide), swap_eq h0 h2, awake]
  by_cases s : w / 4503599627370496 = 4095
  · rw [if_pos s]
    simp only [Option.bind_some]
    rw [unpack_eq h0 h2]
    simp
  · rw [if_neg s]
    simp only [Option.bind_some]
    rw [unpack_eq (by omega) (by omega), w64 (n := w / 4503599627370496 + 1) (by omega) (by omega)]
    have a1 : (w + 4503599627370496) / 4503599627370496 = w / 4503599627370496 + 1 := by omega
    have a2 : (w + 4503599627370496) / 1099511627776 % 4096 = w / 1099511627776 % 4096 := by omega
    have a3 : (w + 4503599627370496) % 1099511627776 = w % 1099511627776 := by omega
    simp only [Option.bind_some, if_true, a1, a2, a3]
    simp
theorem apart_go {w : Int} (l : Int) (h0 : 0 ≤ w) (h2 : w < 18446744073709551616) :
    mantletlaw14_GateApart.j0 2 w l false (w / 4503599627370496) (w / 1099511627776 % 4096) (w % 1099511627776) = some true := by
  have hs := apart_swap h0 h2 0
  simp only [mantletlaw14_GateApart.j0]
  rw [if_neg (by decide), enter_eq l h0 h2]
  by_cases c : w / 1099511627776 % 4096 ≥ l ∨ w / 1099511627776 % 4096 = 4095
  · rw [if_pos c, Option.bind_some]
    dsimp only
    rw [if_neg (by decide)]
    simp only [mantletlaw14_GateApart.j1] at hs
    rw [if_neg (by decide)] at hs
    exact hs
  · rw [if_neg c, Option.bind_some]
    dsimp only
    rw [if_pos rfl, unpack_eq (by omega) (by omega), leave_eq (by omega) (by omega), if_neg (by omega), Option.bind_some, Option.bind_some]
    dsimp only
    have b0 : w + 1099511627776 - 1099511627776 = w := by omega
    have b1 : (w + 1099511627776) / 4503599627370496 = w / 4503599627370496 := by omega
    have b2 : (w + 1099511627776) / 1099511627776 % 4096 = w / 1099511627776 % 4096 + 1 := by omega
    have b3 : (w + 1099511627776) % 1099511627776 = w % 1099511627776 := by omega
    rw [if_pos rfl, if_pos b0, b1, b2, b3, w64 (n := w / 1099511627776 % 4096 + 1) (by omega) (by omega), if_pos rfl, if_neg (by omega), if_pos rfl, bne_self_eq_false]
    exact hs
theorem GateApart : mantletlaw14_GateApart.Pure := by
  intro w n l hw _ _
  obtain ⟨h0, h2⟩ := wf_u64 hw
  refine ⟨2, ?_⟩
  unfold mantletlaw14_GateApart.f
  have ht := ticked_range w n
  have a1 : (w / 1099511627776 * 1099511627776 + ticked w n) / 4503599627370496 = w / 4503599627370496 := by omega
  have a2 : (w / 1099511627776 * 1099511627776 + ticked w n) / 1099511627776 % 4096 = w / 1099511627776 % 4096 := by omega
  have a3 : (w / 1099511627776 * 1099511627776 + ticked w n) % 1099511627776 = ticked w n := by omega
  rw [unpack_eq h0 h2, tick_eq h0 h2, Option.bind_some, Option.bind_some, unpack_eq (by omega) (by omega), Option.bind_some]
  dsimp only
  rw [a1, a2, a3, if_neg (by omega), if_pos rfl, bne_self_eq_false]
  exact apart_go l h0 h2
end Go.Proofs.Ytbdgjcmljjfomaa.Pure
