/-
  mantletlaw02.SumEdits: Edit agrees with the reference.
  No condition: any checksum, any words.
-/
import Derived.Test.YtjmdidbhocmhgaaSumRef
namespace Go.Proofs.Ytjmdidbhocmhgaa.Pure
open Go.RowKit Go.Proofs.Ytjmdidbhocmhgaa.Sum Go.Proofs.Ytjmdidbhocmhgaa.Bits Go.Proofs.YtjmdidbhocmhgaaW.PrintWords Go.Proofs.YtjmdidbhocmhgaaW.PrintLast Go.Proofs.Ytjmdidbhocmhgaa.SumWordSum
theorem SumEdits : mantletlaw02_SumEdits.Pure := by
  intro c w i hc hw hi
  obtain ⟨c0, c1⟩ := wf_u16 hc
  obtain ⟨w0, w1⟩ := wf_u16 hw
  obtain ⟨i0, i1⟩ := wf_u16 hi
  have hf := F_range (65535 - c + (65535 - w))
  have hg := F_range (65535 - c + (65535 - w) + i)
  refine ⟨200, ?_⟩
  unfold mantletlaw02_SumEdits.f mantletref02_Edit.f
  rw [awake_from 100, Option.bind_some, if_pos rfl, edit_eq 196 c0 (by omega) w0 (by omega) i0 (by omega), Option.bind_some, w64 (n := c) (by omega) (by omega), w64 (n := w) (by omega) (by omega), w64 (n := i) (by omega) (by omega), w64 (n := 65535 - c) (by omega) (by omega), w64 (n := 65535 - w) (by omega) (by omega), two_eq (by omega) (by omega) (by omega) (by omega), Option.bind_some, two_eq hf.1 hf.2 i0 (by omega), Option.bind_some, Option.bind_some, F_add (by omega) i0, beq_self_eq_true]
end Go.Proofs.Ytjmdidbhocmhgaa.Pure
