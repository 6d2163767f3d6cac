/-
  mantletlaw02.SumChanges: an edited checksum is correct for the changed words.
  No condition: any bytes, any place, any word.
-/
import Derived.Test.YtjmdidbhocmhgaaSumSet
namespace Go.Proofs.Ytjmdidbhocmhgaa.Pure
open Go.RowKit Go.Proofs.Ytjmdidbhocmhgaa.Smz Go.Proofs.Ytjmdidbhocmhgaa.Bits Go.Proofs.YtjmdidbhocmhgaaW.PrintWords Go.Proofs.YtjmdidbhocmhgaaW.PrintLast Go.Proofs.Ytjmdidbhocmhgaa.SumWordSmz
theorem F_mod {n : Int} (h : 0 ≤ n) : F n % 65535 = n % 65535 := by unfold F; split <;> omega
theorem word_u16 {x y : Int} (x0 : 0 ≤ x) (x1 : x < 256) (y0 : 0 ≤ y) (y1 : y < 256) :
    bits .or .u16 (IntKind.u16.wrap (IntKind.u16.wrap x * 256)) (IntKind.u16.wrap y) = 256 * x + y := by
  rw [wrap_u16, wrap_u16, wrap_u16, show x % 65536 * 256 % 65536 = x * 256 by omega, show y % 65536 = y by omega]
  rw [bits_join .u16 16 (by decide) (fun n a b => by rw [wrap_u16]; omega) 8 (x * 256) y (by omega) (by omega) (by omega) y0 (by omega) (by omega)]
  omega
theorem SumChanges : mantletlaw02_SumChanges.Pure := by
  intro l a s _ _ hb ha hs
  obtain ⟨a0, a1⟩ := wf_u16 ha
  obtain ⟨s0, s1⟩ := wf_u16 hs
  have hl := short_length l
  have hy : ∀ x ∈ shortL l, 0 ≤ x ∧ x < 256 := fun x hx => wf_u8 (hb x (short_mem hx))
  refine ⟨6500, ?_⟩
  unfold mantletlaw02_SumChanges.f
  rw [Option.bind_some, short_eq, Option.bind_some, List.nil_append, if_pos (by simp; omega), Option.bind_some]
  generalize shortL l = y at *
  by_cases c : (y.length : Int) < 2
  · rw [if_pos c, awake_from 6400, Option.bind_some]
  · rw [if_neg c]
    obtain ⟨i, i1, i2, i3, i4, i5⟩ := place a0 a1 (show 2 ≤ y.length by omega) hl
    obtain ⟨p0, p1⟩ := rd_range hy (show i < y.length by omega)
    obtain ⟨q0, q1⟩ := rd_range hy (show i + 1 < y.length by omega)
    have w0 := WL_nonneg y 0 hy
    have f0 := F_range (WL 0 y)
    have g0 := F_range (65535 - (65535 - F (WL 0 y)) + (65535 - (256 * rd y (i : Int) + rd y ((i + 1 : Nat) : Int))) + s)
    rw [if_neg i1, of_some y 6500 hy (by omega) (by omega), Option.bind_some, i2, i3, if_pos (by omega), if_pos (by omega), if_pos (by omega), if_pos (by omega), word_u16 p0 p1 q0 q1, edit_eq 6496 (by omega) (by omega) (by omega) (by omega) s0 (by omega), Option.bind_some, awake_from 6400, Option.bind_some, if_pos rfl, Int.toNat_natCast, Int.toNat_natCast]
    have w1 : WL 0 ((y.set i (s / 256 % 256)).set (i + 1) (s % 256)) = WL 0 y - (256 * rd y (i : Int) + rd y ((i + 1 : Nat) : Int)) + s := by
      rw [WL_set _ _ _ _ (by rw [List.length_set]; omega), WL_set _ _ _ _ (by omega), rd_set (by omega), if_neg (show ¬ i = i + 1 by omega), if_pos (show (0 + i) % 2 = 0 by omega), if_neg (show ¬ (0 + (i + 1)) % 2 = 0 by omega)]
      omega
    have r1 : ∀ x ∈ (y.set i (s / 256 % 256)).set (i + 1) (s % 256), 0 ≤ x ∧ x < 256 := set_range (set_range hy (by omega) (by omega)) (by omega) (by omega)
    have w2 := WL_nonneg _ 0 r1
    rw [add_some _ 6500 r1 (by rw [List.length_set, List.length_set]; omega) (by omega) (by omega) (by omega), Option.bind_some, Int.zero_add, w1]
    rw [w1] at w2
    rw [not_u16 (by omega) (by omega)]
    have g1 := F_range (WL 0 y - (256 * rd y (i : Int) + rd y ((i + 1 : Nat) : Int)) + s)
    rw [w64 (by omega) (by omega), w64 (by omega) (by omega), Int.tmod_eq_emod_of_nonneg (by omega), Int.tmod_eq_emod_of_nonneg (by omega)]
    have e : (65535 - (65535 - F (65535 - (65535 - F (WL 0 y)) + (65535 - (256 * rd y (i : Int) + rd y ((i + 1 : Nat) : Int))) + s))) % 65535 = F (WL 0 y - (256 * rd y (i : Int) + rd y ((i + 1 : Nat) : Int)) + s) % 65535 := by
      rw [show 65535 - (65535 - F (65535 - (65535 - F (WL 0 y)) + (65535 - (256 * rd y (i : Int) + rd y ((i + 1 : Nat) : Int))) + s)) = F (65535 - (65535 - F (WL 0 y)) + (65535 - (256 * rd y (i : Int) + rd y ((i + 1 : Nat) : Int))) + s) by omega, F_mod (by omega), F_mod w2]
      have := F_mod w0
      omega
    rw [e, beq_self_eq_true]
end Go.Proofs.Ytjmdidbhocmhgaa.Pure
