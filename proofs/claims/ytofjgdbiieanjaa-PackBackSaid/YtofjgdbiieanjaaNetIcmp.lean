import Derived.Test.YtofjgdbiieanjaaAllx7
import Derived.Test.YtofjgdbiieanjaaNetRef
namespace Go.Proofs.Ytofjgdbiieanjaa.NetIcmp
open Go.RowKit Go.Proofs.Ytofjgdbiieanjaa.All Go.Proofs.Ytofjgdbiieanjaa.Ext Go.Proofs.Ytofjgdbiieanjaa.Bits Go.Proofs.YtofjgdbiieanjaaW.PrintWords Go.Proofs.YtofjgdbiieanjaaW.PrintLast Go.Proofs.Ytofjgdbiieanjaa.NetField Go.Proofs.Ytofjgdbiieanjaa.NetSum Go.Proofs.Ytofjgdbiieanjaa.NetRef
/-! What icmp and its reference come to. -/
theorem known_eq (x : Int) : icmp_known.f x = some (decide (x = 8 ∨ x = 0)) := by
  unfold icmp_known.f
  by_cases h : x = 8
  · rw [if_pos h, decide_eq_true (.inl h)]
  · rw [if_neg h]
    by_cases h0 : x = 0
    · rw [h0, decide_eq_true (.inr rfl)]; rfl
    · rw [beq_eq_false_iff_ne.2 h0, decide_eq_false (by omega)]
/-- What a message says, or what is wrong. -/
def parseV (l : List Int) : Int × Int × Int :=
  if l.length < 8 then (0, 0, 4) else if F (WL 0 l) ≠ 65535 then (0, 0, 7) else if (rd l 0 = 8 ∨ rd l 0 = 0) ∧ rd l 1 = 0 then (rd l 0, two l 4, 0) else (0, 0, 10)
theorem parse_eq (l : List Int) (k : Nat) (hb : Byte l) (hl : l.length ≤ 10000) : icmp_Parse.f (k + 11 + l.length) l = some (parseV l) := by
  unfold icmp_Parse.f parseV
  by_cases h8 : l.length < 8
  · rw [if_pos (by omega), if_pos h8]
  · rw [if_neg (by omega), if_neg h8, show k + 11 + l.length = (k + 6) + 5 + l.length by omega, add_eq l (s := 0) (k + 6) hb (by omega) (by omega) (by omega), Option.bind_some, Int.zero_add]
    by_cases hs : F (WL 0 l) = 65535
    · rw [if_pos hs, if_neg (show ¬ (F (WL 0 l) ≠ 65535) from fun h => h hs), if_pos (by omega), known_eq, Option.bind_some]
      by_cases hk : rd l 0 = 8 ∨ rd l 0 = 0
      · rw [decide_eq_true hk, if_pos rfl, if_pos (by omega)]
        by_cases h1 : rd l 1 = 0
        · have h2 := two_range hb (i := 4) (by omega)
          have hn := num2 (l := l) hb (i := 4) (k + 6 + 5 + l.length - 11) (by omega) (by omega)
          rw [show k + 6 + 5 + l.length - 11 + 11 = k + 6 + 5 + l.length by omega] at hn
          rw [if_pos h1, if_pos ⟨hk, h1⟩]
          rw [show ((4 : Nat) : Int) = 4 from rfl] at hn
          rw [hn, Option.bind_some]
          dsimp only
          rw [wrap_u16, Int.emod_eq_of_lt (by omega) (by omega)]
        · rw [if_neg h1, if_neg (fun h => h1 h.2)]
      · rw [decide_eq_false hk, if_neg (by decide), if_neg (fun h => hk h.1)]
    · rw [if_neg hs, if_pos hs]
end Go.Proofs.Ytofjgdbiieanjaa.NetIcmp
