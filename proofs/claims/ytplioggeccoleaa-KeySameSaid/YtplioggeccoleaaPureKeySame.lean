import Derived.Test.YtplioggeccoleaaKeyx29
import Derived.Test.YtplioggeccoleaaNetKeyA
namespace Go.Proofs.Ytplioggeccoleaa.Pure
open Go.RowKit Go.Proofs.Ytplioggeccoleaa.Key Go.Proofs.Ytplioggeccoleaa.Ext Go.Proofs.Ytplioggeccoleaa.Bits Go.Proofs.Ytplioggeccoleaa.NetKey Go.Proofs.YtplioggeccoleaaW.PrintWords Go.Proofs.YtplioggeccoleaaW.PrintLast
set_option maxHeartbeats 8000000 in
theorem KeySame : mantletlaw10_KeySame.Pure := by
  intro a0 a1 a2 a3 a4 a5 a6 b0 b1 b2 b3 b4 b5 b6 h0 h1 h2 h3 h4 h5 h6 g0 g1 g2 g3 g4 g5 g6
  refine ⟨80 + 1 + 1, ?_⟩
  clear h0 h1 h2 h3 h4 h5 h6 g0 g1 g2 g3 g4 g5 g6
  unfold mantletlaw10_KeySame.f
  rw [show key_Of.f (80 + 1 + 1) a0 a1 a2 a3 a4 a5 a6 = _ from of_eq 72 a0 a1 a2 a3 a4 a5 a6, show key_Of.f (80 + 1 + 1) b0 b1 b2 b3 b4 b5 b6 = _ from of_eq 72 b0 b1 b2 b3 b4 b5 b6]
  simp only [Option.bind_some, mantletlaw10_KeySame.j0, mantletlaw10_KeySame.j1, show mantletlaw10_awake.f 80 = some true from awake 0, if_true]
  have hs : ∀ (X Y : Bool), X = Y → some (X == Y) = some true := fun X Y h => by rw [h]; simp
  by_cases ta : turned a1 a2 a3 a4 = true <;> by_cases tb : turned b1 b2 b3 b4 = true <;>
    simp only [ta, tb, if_true, if_false, Bool.false_eq_true] <;> simp only [turned, decide_eq_true_eq] at ta tb <;>
    (repeat' split) <;> refine hs _ _ ?_ <;> rw [Bool.eq_iff_iff] <;> simp only [Bool.and_eq_true, beq_iff_eq, Bool.false_eq_true, iff_true, iff_false] <;> (try simp only [beq_iff_eq] at *) <;> omega
end Go.Proofs.Ytplioggeccoleaa.Pure
