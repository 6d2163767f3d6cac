/-
  mantletlaw02.SumZero: bytes that contain their checksum have the sum 65535; with one bit changed they do not.
  No condition: any bytes, any place, any bit.
-/
import Derived.Test.YtjmdidbhocmhgaaSumSet
namespace Go.Proofs.Ytjmdidbhocmhgaa.Pure
open Go.RowKit Go.Proofs.Ytjmdidbhocmhgaa.Smz Go.Proofs.Ytjmdidbhocmhgaa.Bits Go.Proofs.YtjmdidbhocmhgaaW.PrintWords Go.Proofs.YtjmdidbhocmhgaaW.PrintLast Go.Proofs.Ytjmdidbhocmhgaa.SumWordSmz
/-- What is missing to a whole sum makes it whole. -/
theorem whole {w : Int} (h : 0 ≤ w) : (w + (65535 - F w)) % 65535 = 0 ∧ 0 < w + (65535 - F w) := by unfold F; split <;> omega
theorem F_whole {t : Int} (h : t % 65535 = 0) (h0 : 0 < t) : F t = 65535 := by unfold F; rw [if_neg (by omega)]; omega
theorem F_other {t u d : Int} (h : t % 65535 = 0) (hd : 0 < d) (hd1 : d < 65535) (hu : u = t + d ∨ u = t - d) : F u ≠ 65535 := by unfold F; split <;> omega
set_option maxRecDepth 100000 in
theorem turn_nat : ∀ b, b < 256 → ∀ m, m < 8 → ((b ^^^ 2 ^ m) = b + 2 ^ m ∨ (b ^^^ 2 ^ m) + 2 ^ m = b) ∧ (b ^^^ 2 ^ m) < 256 := by decide
theorem turn {b : Int} {m : Nat} (b0 : 0 ≤ b) (b1 : b < 256) (hm : m < 8) : ∃ d : Int, 0 < d ∧ d ≤ 128 ∧ 0 ≤ bits .xor .u8 b (shl .u8 1 (m : Int)) ∧ bits .xor .u8 b (shl .u8 1 (m : Int)) < 256 ∧
    (bits .xor .u8 b (shl .u8 1 (m : Int)) = b + d ∨ bits .xor .u8 b (shl .u8 1 (m : Int)) = b - d) := by
  obtain ⟨n, rfl⟩ := Int.eq_ofNat_of_zero_le b0
  have hp : 2 ^ m ≤ 2 ^ 7 := Nat.pow_le_pow_right (by decide) (by omega)
  have hq : 0 < 2 ^ m := Nat.two_pow_pos m
  have e : shl .u8 1 (m : Int) = ((2 ^ m : Nat) : Int) := by
    unfold shl
    rw [show min ((m : Int)).toNat IntKind.u8.bits = m by simp [IntKind.bits]; omega, Int.one_mul, show (2 : Int) ^ m = ((2 ^ m : Nat) : Int) by simp]
    exact wrap_nat .u8 rfl _ (by simp [IntKind.bits]; omega)
  have h := (bits_nats .u8 rfl n (2 ^ m) (by simp [IntKind.bits]; omega) (by simp [IntKind.bits]; omega)).2.2.1
  obtain ⟨h1, h2⟩ := turn_nat n (by omega) m hm
  rw [e, h]
  refine ⟨((2 ^ m : Nat) : Int), ?_⟩
  clear e h
  generalize (n ^^^ 2 ^ m) = x at *
  generalize 2 ^ m = p at *
  omega
theorem SumZero : mantletlaw02_SumZero.Pure := by
  intro l a b _ _ hb ha hbit
  obtain ⟨a0, a1⟩ := wf_u16 ha
  obtain ⟨b0, b1⟩ := wf_u16 hbit
  have hl := short_length l
  have hy : ∀ x ∈ shortL l, 0 ≤ x ∧ x < 256 := fun x hx => wf_u8 (hb x (short_mem hx))
  refine ⟨6500, ?_⟩
  unfold mantletlaw02_SumZero.f
  rw [Option.bind_some, short_eq, Option.bind_some, List.nil_append, if_pos (by simp; omega), Option.bind_some]
  generalize shortL l = y at *
  by_cases c : (y.length : Int) < 2
  · rw [if_pos c, awake_from 6400, Option.bind_some]
  · rw [if_neg c]
    obtain ⟨i, i1, i2, i3, i4, i5⟩ := place a0 a1 (show 2 ≤ y.length by omega) hl
    rw [if_neg i1, i2, i3, if_pos (by omega), if_pos (by omega), if_pos (by omega), if_pos (by omega), Option.bind_some, Int.toNat_natCast, Int.toNat_natCast]
    -- the bytes without a checksum
    obtain ⟨x1, hx1⟩ : ∃ x, x = (y.set i 0).set (i + 1) 0 := ⟨_, rfl⟩
    have l1 : x1.length = y.length := by rw [hx1, List.length_set, List.length_set]
    have r1 : ∀ x ∈ x1, 0 ≤ x ∧ x < 256 := by rw [hx1]; exact set_range (set_range hy (by omega) (by omega)) (by omega) (by omega)
    have z0 : rd x1 (i : Int) = 0 := by rw [hx1, rd_set (by rw [List.length_set]; omega), if_neg (by omega), rd_set (by omega), if_pos rfl]
    have z1 : rd x1 ((i + 1 : Nat) : Int) = 0 := by rw [hx1, rd_set (by rw [List.length_set]; omega), if_pos rfl]
    rw [← hx1, of_some x1 6500 r1 (by omega) (by omega), Option.bind_some, Option.bind_some]
    have w1 := WL_nonneg x1 0 r1
    have f1 := F_range (WL 0 x1)
    obtain ⟨t0, t1⟩ := whole w1
    -- with it
    obtain ⟨c, hc⟩ : ∃ c, c = 65535 - F (WL 0 x1) := ⟨_, rfl⟩
    rw [← hc] at t0 t1 ⊢
    obtain ⟨x2, hx2⟩ : ∃ x, x = (x1.set i (c / 256 % 256)).set (i + 1) (c % 256) := ⟨_, rfl⟩
    have l2 : x2.length = y.length := by rw [hx2, List.length_set, List.length_set, l1]
    have r2 : ∀ x ∈ x2, 0 ≤ x ∧ x < 256 := by rw [hx2]; exact set_range (set_range r1 (by omega) (by omega)) (by omega) (by omega)
    have w2 : WL 0 x2 = WL 0 x1 + c := by
      rw [hx2, WL_set _ _ _ _ (by rw [List.length_set]; omega), WL_set _ _ _ _ (by omega), rd_set (by omega), if_neg (show ¬ i = i + 1 by omega), z0, z1, if_pos (show (0 + i) % 2 = 0 by omega), if_neg (show ¬ (0 + (i + 1)) % 2 = 0 by omega)]
      omega
    rw [← hx2, add_some x2 6500 r2 (by omega) (by omega) (by omega) (by omega), Option.bind_some, Int.zero_add, w2, F_whole t0 t1, if_pos rfl, if_neg (by omega)]
    -- one bit turned
    have q0 : 0 ≤ Int.tdiv (wrap64 b) 8 ∧ Int.tdiv (wrap64 b) 8 < 8192 := by rw [w64 (by omega) (by omega), Int.tdiv_eq_ediv_of_nonneg b0]; omega
    have q1 : wrap64 (Int.tdiv (wrap64 b) 8) = Int.tdiv (wrap64 b) 8 := w64 (by omega) (by omega)
    obtain ⟨j, hj⟩ := Int.eq_ofNat_of_zero_le (show 0 ≤ Int.tmod (wrap64 (Int.tdiv (wrap64 b) 8)) (y.length : Int) by rw [q1]; exact Int.tmod_nonneg _ q0.1)
    have hj1 : j < y.length := by
      have h := Int.tmod_lt_of_pos (wrap64 (Int.tdiv (wrap64 b) 8)) (show (0 : Int) < y.length by omega)
      omega
    obtain ⟨m, hm⟩ := Int.eq_ofNat_of_zero_le (show 0 ≤ Int.tmod b 8 from Int.tmod_nonneg _ b0)
    have hm1 : m < 8 := by
      have h := Int.tmod_lt_of_pos b (show (0 : Int) < 8 by omega)
      omega
    rw [hj, hm, if_pos (by omega), if_pos (by omega), if_pos (by omega), awake_from 6400, Option.bind_some, if_pos rfl, Int.toNat_natCast]
    obtain ⟨v0, v1⟩ := rd_range r2 (show j < x2.length by omega)
    obtain ⟨d, d0, d1, u0, u1, hu⟩ := turn v0 v1 hm1
    rw [add_some _ 6500 (set_range r2 u0 u1) (by rw [List.length_set]; omega) (by omega) (by omega) (by omega), Option.bind_some, Int.zero_add, WL_set _ _ _ _ (by omega), w2]
    generalize bits .xor .u8 (rd x2 (j : Int)) (shl .u8 1 (m : Int)) = u at *
    have hne : F (WL 0 x1 + c + if (0 + j) % 2 = 0 then 256 * (u - rd x2 (j : Int)) else u - rd x2 (j : Int)) ≠ 65535 := by
      by_cases e : (0 + j) % 2 = 0
      · rw [if_pos e]; exact F_other t0 (d := 256 * d) (by omega) (by omega) (by omega)
      · rw [if_neg e]; exact F_other t0 (d := d) (by omega) (by omega) (by omega)
    rw [bne_iff_ne.mpr hne]
end Go.Proofs.Ytjmdidbhocmhgaa.Pure
