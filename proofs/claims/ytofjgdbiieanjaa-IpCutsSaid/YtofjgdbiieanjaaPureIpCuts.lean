/-
  mantletlaw04.IpCuts: a truncated packet is refused as short.
-/
import Derived.Test.YtofjgdbiieanjaaAllx61
import Derived.Test.YtofjgdbiieanjaaNetIp
namespace Go.Proofs.Ytofjgdbiieanjaa.Pure
open Go.RowKit Go.Proofs.Ytofjgdbiieanjaa.All Go.Proofs.Ytofjgdbiieanjaa.Ext Go.Proofs.Ytofjgdbiieanjaa.Bits Go.Proofs.YtofjgdbiieanjaaW.PrintWords Go.Proofs.YtofjgdbiieanjaaW.PrintLast Go.Proofs.Ytofjgdbiieanjaa.NetSum Go.Proofs.Ytofjgdbiieanjaa.NetRef Go.Proofs.Ytofjgdbiieanjaa.NetIp
/-- A packet that is well, cut off, is short. -/
theorem cut_short (l : List Int) (m : Nat) (hb : Byte l) {p s d h a t i e : Int} {q : List Int} (hp : parseV l = (p, s, d, h, a, t, i, q, e)) (he : e = 0) : 20 ≤ a ∧ a ≤ l.length ∧ ((m : Int) < a → parseV (l.take m) = no 4) := by
  unfold parseV at hp
  have key : ¬ l.length > 1500 ∧ ¬ l.length < 20 ∧ ¬ (rd l 0 / 16 ≠ 4) ∧ ¬ (4 * (rd l 0 % 16) < 20) ∧ ¬ ((l.length : Int) < 4 * (rd l 0 % 16) ∨ two l 2 < 4 * (rd l 0 % 16) ∨ (l.length : Int) < two l 2) ∧ a = two l 2 := by
    by_cases h1 : l.length > 1500
    · rw [if_pos h1] at hp; simp only [no, Prod.mk.injEq] at hp; omega
    rw [if_neg h1] at hp
    by_cases h2 : l.length < 20
    · rw [if_pos h2] at hp; simp only [no, Prod.mk.injEq] at hp; omega
    rw [if_neg h2] at hp
    by_cases h3 : rd l 0 / 16 ≠ 4
    · rw [if_pos h3] at hp; simp only [no, Prod.mk.injEq] at hp; omega
    rw [if_neg h3] at hp
    by_cases h4 : 4 * (rd l 0 % 16) < 20
    · rw [if_pos h4] at hp; simp only [no, Prod.mk.injEq] at hp; omega
    rw [if_neg h4] at hp
    by_cases h5 : (l.length : Int) < 4 * (rd l 0 % 16) ∨ two l 2 < 4 * (rd l 0 % 16) ∨ (l.length : Int) < two l 2
    · rw [if_pos h5] at hp; simp only [no, Prod.mk.injEq] at hp; omega
    rw [if_neg h5] at hp
    by_cases h6 : F (WL 0 (l.take (4 * (rd l 0 % 16)).toNat)) ≠ 65535
    · rw [if_pos h6] at hp; simp only [no, Prod.mk.injEq] at hp; omega
    rw [if_neg h6] at hp
    by_cases h7 : two l 6 % 16384 ≠ 0
    · rw [if_pos h7] at hp; simp only [no, Prod.mk.injEq] at hp; omega
    rw [if_neg h7] at hp
    simp only [Prod.mk.injEq] at hp
    exact ⟨h1, h2, h3, h4, h5, hp.2.2.2.2.1.symm⟩
  obtain ⟨h1, h2, h3, h4, h5, rfl⟩ := key
  refine ⟨by omega, by omega, fun hm => ?_⟩
  have hlen : (l.take m).length = m := by rw [List.length_take]; omega
  have hr : ∀ j : Nat, j < m → rd (l.take m) (j : Int) = rd l (j : Int) := by
    intro j hj
    simp only [rd, Int.toNat_natCast, List.getD_eq_getElem?_getD, List.getElem?_take]
    rw [if_pos hj]
  unfold parseV
  rw [hlen, if_neg (by omega)]
  by_cases h20 : m < 20
  · rw [if_pos h20]
  · have r0 := hr 0 (by omega)
    rw [show ((0 : Nat) : Int) = 0 from rfl] at r0
    have r2 : two (l.take m) 2 = two l 2 := by unfold two; rw [hr 2 (by omega), hr 3 (by omega)]
    rw [if_neg h20, r0, if_neg h3, if_neg h4, r2, if_pos (show _ ∨ _ from .inr (.inr hm))]
theorem IpCuts : mantletlaw04_IpCuts.Pure := by
  intro l x _ hmx hb0 hx
  obtain ⟨x0, x1⟩ := wf_u16 hx
  have hb1 := byte_of hb0
  have hb := short_byte hb1
  have hl := short_length l
  refine ⟨4000, ?_⟩
  have h1 := parse_eq (shortL l) (3980 - (shortL l).length) hb
  rw [show 3980 - (shortL l).length + 20 + (shortL l).length = 4000 by omega] at h1
  have h3 := awake_from 3919
  have hj : ∀ e p s d h a t i, e ≠ 0 → mantletlaw04_IpCuts.j0 4000 l x e true p s d h a t i = some true := by
    intro e p s d h a t i he
    rw [show (4000 : Nat) = 3999 + 1 by omega]
    simp only [mantletlaw04_IpCuts.j0]
    rw [if_pos trivial, h3, Option.bind_some, if_pos rfl, bne_iff_ne.2 he]
  unfold mantletlaw04_IpCuts.f
  rw [short_eq, Option.bind_some, h1, Option.bind_some]
  obtain ⟨p, s, d, h, a, t, i, q, e, hv⟩ : ∃ p s d h a t i q e, parseV (shortL l) = (p, s, d, h, a, t, i, q, e) := ⟨_, _, _, _, _, _, _, _, _, rfl⟩
  rw [hv]
  dsimp only
  by_cases he : e = 0
  · obtain ⟨ha, hal, hc⟩ := cut_short (shortL l) (x % a).toNat hb hv he
    rw [if_pos he, if_neg (by omega), Option.bind_some, decide_eq_false (by omega)]
    have hsl : (shortL l).length ≤ l.length := by unfold shortL; split <;> (try rw [List.length_take]) <;> omega
    have hmod := Int.emod_nonneg x (show a ≠ 0 by omega)
    have hmod2 := Int.emod_lt_of_pos x (show 0 < a by omega)
    have htk : l.take (x % a).toNat = (shortL l).take (x % a).toNat := by
      unfold shortL
      split
      · rw [List.take_take]; congr 1; omega
      · rfl
    have h4 := parse_eq (l.take (x % a).toNat) (3979 - (l.take (x % a).toNat).length) (byte_take hb1 _)
    have h5 : (l.take (x % a).toNat).length ≤ 1600 := by rw [List.length_take]; omega
    rw [show 3979 - (l.take (x % a).toNat).length + 20 + (l.take (x % a).toNat).length = 3999 by omega] at h4
    rw [htk, hc (by omega), ← htk] at h4
    rw [show (4000 : Nat) = 3999 + 1 by omega]
    simp only [mantletlaw04_IpCuts.j0]
    rw [if_neg (show ¬ (false = true) by decide), if_neg (by omega), w64 (n := x) (by omega) (by omega), Int.tmod_eq_emod_of_nonneg x0, if_pos (by omega), if_pos (by omega), h4, Option.bind_some, h3, Option.bind_some]
    rfl
  · rw [if_neg he, hj _ _ _ _ _ _ _ _ he]
end Go.Proofs.Ytofjgdbiieanjaa.Pure
