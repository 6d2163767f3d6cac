/-
  mantletlaw14.GateMoves: Tick, Enter, Leave and Swap agree with the reference.
  No condition: any word, any numbers.
-/
import Derived.Test.YtbdgjcmljjfomaaGateRef
namespace Go.Proofs.Ytbdgjcmljjfomaa.Pure
open Go.RowKit Go.Proofs.Ytbdgjcmljjfomaa.Gat Go.Proofs.Ytbdgjcmljjfomaa.Bits Go.Proofs.YtbdgjcmljjfomaaW.PrintWords Go.Proofs.YtbdgjcmljjfomaaW.PrintLast Go.Proofs.Ytbdgjcmljjfomaa.WordGat
theorem GateMoves : mantletlaw14_GateMoves.Pure := by
  intro w n l hw _ _
  obtain ⟨h0, h2⟩ := wf_u64 hw
  unfold mantletlaw14_GateMoves.f
  rw [enter_eq l h0 h2, refEnter l h0 h2]
  rw [leave_eq h0 h2, refLeave h0 h2, swap_eq h0 h2, refSwap h0 h2, awake, tick_eq h0 h2, refTick h0 h2]
  split <;> split <;> split <;> simp
end Go.Proofs.Ytbdgjcmljjfomaa.Pure
