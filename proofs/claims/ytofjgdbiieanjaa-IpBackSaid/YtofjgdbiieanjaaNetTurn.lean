import Derived.Test.YtofjgdbiieanjaaNetRef
namespace Go.Proofs.Ytofjgdbiieanjaa.NetTurn
open Go.RowKit Go.Proofs.Ytofjgdbiieanjaa.All Go.Proofs.Ytofjgdbiieanjaa.Ext Go.Proofs.Ytofjgdbiieanjaa.Bits Go.Proofs.YtofjgdbiieanjaaW.PrintWords Go.Proofs.YtofjgdbiieanjaaW.PrintLast Go.Proofs.Ytofjgdbiieanjaa.NetSum Go.Proofs.Ytofjgdbiieanjaa.NetField Go.Proofs.Ytofjgdbiieanjaa.NetRef
/-! Bytes with a whole sum, and with one bit turned. -/
/-- What is missing to a whole sum makes it whole. -/
theorem whole {w : Int} (h : 0 ≤ w) : F (w + (65535 - F w)) = 65535 := by unfold F; split <;> (split <;> omega)
theorem F_other {t u d : Int} (h : F t = 65535) (hd : 0 < d) (hd1 : d < 65535) (hu : u = t + d ∨ u = t - d) : F u ≠ 65535 := by
  unfold F at h ⊢
  split at h
  · omega
  · split <;> omega
set_option maxRecDepth 100000 in
theorem turn_nat : ∀ b, b < 256 → ∀ m, m < 8 → ((b ^^^ 2 ^ m) = b + 2 ^ m ∨ (b ^^^ 2 ^ m) + 2 ^ m = b) ∧ (b ^^^ 2 ^ m) < 256 := by decide
theorem turned {b : Int} {m : Nat} (b0 : 0 ≤ b) (b1 : b < 256) (hm : m < 8) : bits .xor .u8 b (shl .u8 1 (m : Int)) = ((b.toNat ^^^ 2 ^ m : Nat) : Int) := by
  obtain ⟨n, rfl⟩ := Int.eq_ofNat_of_zero_le b0
  have hp : 2 ^ m ≤ 2 ^ 7 := Nat.pow_le_pow_right (by decide) (by omega)
  have e : shl .u8 1 (m : Int) = ((2 ^ m : Nat) : Int) := by
    unfold shl
    rw [show min ((m : Int)).toNat IntKind.u8.bits = m by simp [IntKind.bits]; omega, Int.one_mul, show (2 : Int) ^ m = ((2 ^ m : Nat) : Int) by simp]
    exact wrap_nat .u8 rfl _ (by simp [IntKind.bits]; omega)
  rw [e, (bits_nats .u8 rfl n (2 ^ m) (by simp [IntKind.bits]; omega) (by simp [IntKind.bits]; omega)).2.2.1, Int.toNat_natCast]
theorem turn {b : Int} {m : Nat} (b0 : 0 ≤ b) (b1 : b < 256) (hm : m < 8) : ∃ d : Int, 0 < d ∧ d ≤ 128 ∧ 0 ≤ bits .xor .u8 b (shl .u8 1 (m : Int)) ∧ bits .xor .u8 b (shl .u8 1 (m : Int)) < 256 ∧
    (bits .xor .u8 b (shl .u8 1 (m : Int)) = b + d ∨ bits .xor .u8 b (shl .u8 1 (m : Int)) = b - d) := by
  have h1 := turn_nat b.toNat (by omega) m hm
  have hp : 2 ^ m ≤ 2 ^ 7 := Nat.pow_le_pow_right (by decide) (by omega)
  have hq : 0 < 2 ^ m := Nat.two_pow_pos m
  rw [turned b0 b1 hm]
  refine ⟨((2 ^ m : Nat) : Int), ?_⟩
  generalize (b.toNat ^^^ 2 ^ m) = x at *
  generalize 2 ^ m = p at *
  omega
theorem WL_set : ∀ (l : List Int) (p i : Nat) (v : Int), i < l.length → WL p (l.set i v) = WL p l + (if (p + i) % 2 = 0 then 256 * (v - rd l (i : Int)) else v - rd l (i : Int))
  | c :: t, p, 0, v, _ => by
    rw [List.set_cons_zero, WL, WL, show rd (c :: t) ((0 : Nat) : Int) = c from rfl, Nat.add_zero]
    split <;> omega
  | c :: t, p, i + 1, v, h => by
    have e : rd (c :: t) ((i + 1 : Nat) : Int) = rd t (i : Int) := by
      unfold rd
      rw [Int.toNat_natCast, Int.toNat_natCast, List.getD_cons_succ]
    rw [List.set_cons_succ, WL, WL, WL_set t (p + 1) i v (by simpa using h), e, show p + 1 + i = p + (i + 1) by omega]
    omega
theorem set_byte {l : List Int} (hb : Byte l) {i : Nat} {v : Int} (v0 : 0 ≤ v) (v1 : v < 256) : Byte (l.set i v) := by
  intro x hx
  rcases List.mem_or_eq_of_mem_set hx with hx | rfl
  · exact hb x hx
  · exact ⟨v0, v1⟩
theorem rd_set {l : List Int} {i j : Nat} {v : Int} (h : i < l.length) : rd (l.set i v) (j : Int) = if i = j then v else rd l (j : Int) := by
  unfold rd
  rw [Int.toNat_natCast, List.getD_eq_getElem?_getD, List.getD_eq_getElem?_getD]
  by_cases e : i = j
  · subst e
    rw [List.getElem?_set_self h, if_pos rfl]
    rfl
  · rw [List.getElem?_set_ne e, if_neg e]
/-- A byte with one bit turned. -/
def turnL (l : List Int) (j m : Nat) : List Int := l.set j (bits .xor .u8 (rd l (j : Int)) (shl .u8 1 (m : Int)))
theorem turnL_length (l : List Int) (j m : Nat) : (turnL l j m).length = l.length := List.length_set
theorem turnL_byte {l : List Int} (hb : Byte l) {j m : Nat} (hj : j < l.length) (hm : m < 8) : Byte (turnL l j m) := by
  obtain ⟨v0, v1⟩ := rd_byte hb hj
  obtain ⟨d, d0, d1, u0, u1, hu⟩ := turn v0 v1 hm
  exact set_byte hb u0 u1
/-- One bit turned: the sum is whole no more. -/
theorem turnL_sum {l : List Int} {s : Int} (hb : Byte l) (h : F (s + WL 0 l) = 65535) {j m : Nat} (hj : j < l.length) (hm : m < 8) : F (s + WL 0 (turnL l j m)) ≠ 65535 := by
  obtain ⟨v0, v1⟩ := rd_byte hb hj
  obtain ⟨d, d0, d1, u0, u1, hu⟩ := turn v0 v1 hm
  unfold turnL
  rw [WL_set _ _ _ _ hj]
  by_cases e : (0 + j) % 2 = 0
  · rw [if_pos e]; exact F_other h (d := 256 * d) (by omega) (by omega) (by omega)
  · rw [if_neg e]; exact F_other h (d := d) (by omega) (by omega) (by omega)
theorem turnL_rd {l : List Int} {i j m : Nat} (hj : j < l.length) (h : j ≠ i) : rd (turnL l j m) (i : Int) = rd l (i : Int) := by
  unfold turnL
  rw [rd_set hj, if_neg h]
/-- Which byte, and which of its bits. -/
theorem spot {b : Int} {n : Nat} (b0 : 0 ≤ b) (b1 : b < 65536) (hn : 0 < n) : ∃ j : Nat, Int.tmod (wrap64 (Int.tdiv (wrap64 b) 8)) (n : Int) = (j : Int) ∧ j < n := by
  have q0 : 0 ≤ Int.tdiv (wrap64 b) 8 ∧ Int.tdiv (wrap64 b) 8 < 8192 := by rw [w64 (by omega) (by omega), Int.tdiv_eq_ediv_of_nonneg b0]; omega
  have q1 : wrap64 (Int.tdiv (wrap64 b) 8) = Int.tdiv (wrap64 b) 8 := w64 (by omega) (by omega)
  rw [q1]
  obtain ⟨j, hj⟩ := Int.eq_ofNat_of_zero_le (show 0 ≤ Int.tmod (Int.tdiv (wrap64 b) 8) (n : Int) from Int.tmod_nonneg _ q0.1)
  refine ⟨j, hj, ?_⟩
  have h := Int.tmod_lt_of_pos (Int.tdiv (wrap64 b) 8) (show (0 : Int) < n by omega)
  omega
theorem spot8 {b : Int} (b0 : 0 ≤ b) : ∃ m : Nat, Int.tmod b 8 = (m : Int) ∧ m < 8 := by
  obtain ⟨m, hm⟩ := Int.eq_ofNat_of_zero_le (show 0 ≤ Int.tmod b 8 from Int.tmod_nonneg _ b0)
  refine ⟨m, hm, ?_⟩
  have h := Int.tmod_lt_of_pos b (show (0 : Int) < 8 by omega)
  omega
theorem two_bytes {n : Int} (h0 : 0 ≤ n) (h1 : n ≤ 65535) : bytesL n.toNat 2 = [n / 256, n % 256] := by
  simp only [bytesL, Nat.reduceMul, Nat.reducePow]
  refine List.cons_eq_cons.2 ⟨by omega, List.cons_eq_cons.2 ⟨by omega, rfl⟩⟩
end Go.Proofs.Ytofjgdbiieanjaa.NetTurn
