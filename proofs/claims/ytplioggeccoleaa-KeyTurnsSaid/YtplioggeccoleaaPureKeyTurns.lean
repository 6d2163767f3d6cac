import Derived.Test.YtplioggeccoleaaKeyx28
import Derived.Test.YtplioggeccoleaaNetKeyA
namespace Go.Proofs.Ytplioggeccoleaa.Pure
open Go.RowKit Go.Proofs.Ytplioggeccoleaa.Key Go.Proofs.Ytplioggeccoleaa.Ext Go.Proofs.Ytplioggeccoleaa.Bits Go.Proofs.Ytplioggeccoleaa.NetKey Go.Proofs.YtplioggeccoleaaW.PrintWords Go.Proofs.YtplioggeccoleaaW.PrintLast
def kind_ (a b : Int) : Int := if a = 1 then (if b = 8 then 0 else if b = 0 then 8 else b) else b
theorem kind_kind (a b : Int) : kind_ a (kind_ a b) = b := by
  unfold kind_
  by_cases h : a = 1
  · by_cases h8 : b = 8
    · simp [h, h8]
    · by_cases h0 : b = 0
      · simp [h, h0]
      · simp [h, h8, h0]
  · simp [h]
theorem turn_eq (a0 a1 a2 a3 a4 a5 a6 : Int) : key_Turn.f a0 a1 a2 a3 a4 a5 a6 = some (a0, a2, a1, a4, a3, a5, kind_ a0 a6) := by
  unfold key_Turn.f kind_
  split <;> (try rfl)
  split <;> (try rfl)
  split <;> rfl
set_option maxHeartbeats 8000000 in
theorem KeyTurns : mantletlaw10_KeyTurns.Pure := by
  intro a0 a1 a2 a3 a4 a5 a6 h0 h1 h2 h3 h4 h5 h6
  refine ⟨80 + 1, ?_⟩
  clear h0 h1 h2 h3 h4 h5 h6
  unfold mantletlaw10_KeyTurns.f
  rw [turn_eq, show key_Of.f (80 + 1) a0 a1 a2 a3 a4 a5 a6 = _ from of_eq 71 a0 a1 a2 a3 a4 a5 a6]
  simp only [Option.bind_some]
  rw [show key_Of.f (80 + 1) a0 a2 a1 a4 a3 a5 (kind_ a0 a6) = _ from of_eq 71 a0 a2 a1 a4 a3 a5 (kind_ a0 a6)]
  simp only [Option.bind_some, mantletlaw10_KeyTurns.j0, show mantletlaw10_awake.f 80 = some true from awake 0, if_true, turn_eq, kind_kind]
  by_cases ta : turned a1 a2 a3 a4 = true <;> by_cases tb : turned a2 a1 a4 a3 = true <;>
    simp only [ta, tb, if_true, if_false, Bool.false_eq_true, beq_self_eq_true, Bool.and_self] <;> simp only [turned, decide_eq_true_eq] at ta tb
  · exfalso; omega
  · have t1 : (true != false) = true := rfl
    have t2 : (true == !false) = true := rfl
    by_cases h : a1 = a2
    · have h3 : (a3 == a4) = false := beq_eq_false_iff_ne.mpr (by omega)
      rw [if_pos h, h3, t1, if_pos t2, if_neg (by omega), if_pos h.symm, decide_eq_true (by omega)]
    · rw [if_neg h, t1, if_pos t2, if_pos (by omega)]
  · have t1 : (false != true) = true := rfl
    have t2 : (true == !false) = true := rfl
    by_cases h : a1 = a2
    · have h3 : (a3 == a4) = false := beq_eq_false_iff_ne.mpr (by omega)
      rw [if_pos h, h3, t1, if_pos t2, if_neg (by omega), if_pos h, decide_eq_true (by omega)]
    · rw [if_neg h, t1, if_pos t2, if_pos (by omega)]
  · have e1 : a1 = a2 := by omega
    have e2 : a3 = a4 := by omega
    subst e1; subst e2
    simp
end Go.Proofs.Ytplioggeccoleaa.Pure
