/-
  mantletlaw02.SumAdds: Add and Of agree with the reference.
  No condition: any sum, any bytes.
-/
import Derived.Test.YtjmdidbhocmhgaaSumRef
namespace Go.Proofs.Ytjmdidbhocmhgaa.Pure
open Go.RowKit Go.Proofs.Ytjmdidbhocmhgaa.Sum Go.Proofs.Ytjmdidbhocmhgaa.Bits Go.Proofs.YtjmdidbhocmhgaaW.PrintWords Go.Proofs.YtjmdidbhocmhgaaW.PrintLast Go.Proofs.Ytjmdidbhocmhgaa.SumWordSum
theorem SumAdds : mantletlaw02_SumAdds.Pure := by
  intro s l hs _ _ hb
  obtain ⟨s0, s1⟩ := wf_u16 hs
  have hsl := short_length l
  have hsb : ∀ x ∈ shortL l, 0 ≤ x ∧ x < 256 := fun x hx => wf_u8 (hb x (short_mem hx))
  have hf := F_range (s + WL 0 (shortL l))
  have hg := F_range (WL 0 (shortL l))
  have h1 := add_eq (shortL l) (s := s) (3195 - (shortL l).length) hsb (by omega) s0 (by omega)
  have h2 := ref_eq (shortL l) (s := s) (3199 - (shortL l).length) hsb (by omega) s0 (by omega)
  have h3 := of_eq (shortL l) (3195 - (shortL l).length) hsb (by omega)
  have h4 := ref_eq (shortL l) (s := 0) (3199 - (shortL l).length) hsb (by omega) (by omega) (by omega)
  rw [show 3195 - (shortL l).length + 5 + (shortL l).length = 3200 by omega] at h1 h3
  rw [show 3199 - (shortL l).length + 1 + (shortL l).length = 3200 by omega] at h2 h4
  rw [Int.zero_add] at h4
  refine ⟨3200, ?_⟩
  unfold mantletlaw02_SumAdds.f
  rw [awake_from 3100, Option.bind_some, if_pos rfl, short_eq, Option.bind_some, h1, Option.bind_some, Option.bind_some, w64 (n := s) (by omega) (by omega), h2, Option.bind_some, w64 (by omega) (by omega), if_pos rfl, Option.bind_some, h3, Option.bind_some, Option.bind_some, h4, Option.bind_some, w64 (by omega) (by omega), beq_self_eq_true]
end Go.Proofs.Ytjmdidbhocmhgaa.Pure
