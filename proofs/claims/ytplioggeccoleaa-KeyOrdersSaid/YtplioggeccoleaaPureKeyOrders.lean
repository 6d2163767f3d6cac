import Derived.Test.YtplioggeccoleaaKeyx30
import Derived.Test.YtplioggeccoleaaNetKeyA
import Derived.Test.YtplioggeccoleaaNetKeyS
namespace Go.Proofs.Ytplioggeccoleaa.Pure
open Go.RowKit Go.Proofs.Ytplioggeccoleaa.Key Go.Proofs.Ytplioggeccoleaa.Ext Go.Proofs.Ytplioggeccoleaa.Bits Go.Proofs.Ytplioggeccoleaa.NetKey Go.Proofs.YtplioggeccoleaaW.PrintWords Go.Proofs.YtplioggeccoleaaW.PrintLast
theorem stripeL_pow (i : Nat) (hi : i ≤ 12) (h : Int) : stripeL ((2 ^ i : Nat) : Int) h = h % ((2 ^ i : Nat) : Int) := by
  unfold stripeL
  rw [Int.toNat_natCast, if_pos ⟨Int.natCast_nonneg _, pw_pow i hi⟩]
theorem orders_end (k : Nat) {a0 a1 p0 p1 pr : Int} (s : Int) (a00 : 0 ≤ a0) (a01 : a0 < 4294967296) (a10 : 0 ≤ a1) (a11 : a1 < 4294967296) (p00 : 0 ≤ p0) (p01 : p0 < 65536) (p10 : 0 ≤ p1) (p11 : p1 < 65536) (r0 : 0 ≤ pr) (r1 : pr < 256)
    (s0 : 0 ≤ s) : mantletlaw10_KeyOrders.j0 (k + 80 + 1) s false a0 a1 p0 p1 pr = some true := by
  obtain ⟨i, hi, e⟩ : ∃ i : Nat, i ≤ 12 ∧ Int.tmod s 13 = (i : Int) := by
    rw [Int.tmod_eq_emod_of_nonneg s0]
    exact ⟨(s % 13).toNat, by omega, by omega⟩
  have q : ∀ z, key_Stripe.f (k + 80) a0 a1 p0 p1 pr z = some (stripeL z (hashL 2166136261 (flowL a0 a1 p0 p1 pr) : Nat)) := by
    intro z
    have h := stripe_eq (k + 59) z a00 a01 a10 a11 p00 p01 p10 p11 r0 r1
    rw [show k + 59 + 21 = k + 80 by omega] at h
    exact h
  generalize hashL 2166136261 (flowL a0 a1 p0 p1 pr) = h at q
  have hs : shl .i64 1 (Int.tmod s 13) = ((2 ^ i : Nat) : Int) := by
    have h1 : 2 ^ i ≤ 2 ^ 12 := Nat.pow_le_pow_right (by decide) hi
    rw [e]
    have hw : ∀ n : Nat, n ≤ 4096 → IntKind.i64.wrap (n : Int) = n := fun n hn => wraps_i64 _ (by omega) (by omega)
    unfold shl
    rw [Int.toNat_natCast, show min i IntKind.i64.bits = i by simp [IntKind.bits]; omega, show (1 : Int) * 2 ^ i = ((2 ^ i : Nat) : Int) by simp, hw _ h1]
  have hp : 0 < 2 ^ i := Nat.two_pow_pos i
  have hb : 2 ^ i ≤ 2 ^ 12 := Nat.pow_le_pow_right (by decide) hi
  simp only [mantletlaw10_KeyOrders.j0]
  rw [if_neg (by decide), hs, if_pos (by omega), q, Option.bind_some, awake k, Option.bind_some, if_pos rfl, stripeL_pow i hi]
  have m0 := Int.emod_nonneg (h : Int) (show ((2 ^ i : Nat) : Int) ≠ 0 by omega)
  have m1 := Int.emod_lt_of_pos (h : Int) (show (0 : Int) < ((2 ^ i : Nat) : Int) by omega)
  rw [if_pos m0, if_pos m1]
  by_cases h1 : ((2 ^ i : Nat) : Int) = 1
  · rw [if_pos h1]
  · rw [if_neg h1]
    obtain ⟨j, rfl⟩ : ∃ j, i = j + 1 := ⟨i - 1, by
      rcases Nat.eq_zero_or_pos i with h0 | h0
      · subst h0; exact absurd rfl h1
      · omega⟩
    have hd : wrap64 (Int.tdiv ((2 ^ (j + 1) : Nat) : Int) 2) = ((2 ^ j : Nat) : Int) := by
      rw [Int.tdiv_eq_ediv_of_nonneg (by omega), w64 (by omega) (by omega), Nat.pow_succ]
      omega
    have hj : 0 < 2 ^ j := Nat.two_pow_pos j
    rw [hd]
    clear hd
    rw [q, Option.bind_some, if_neg (by omega), stripeL_pow j (by omega), Int.tmod_eq_emod_of_nonneg m0]
    rw [Int.emod_emod_of_dvd _ (show ((2 ^ j : Nat) : Int) ∣ ((2 ^ (j + 1) : Nat) : Int) by rw [Nat.pow_succ]; exact ⟨2, by simp⟩), beq_self_eq_true]
theorem ahead_irr {a b c d e a' b' c' d' e' : Int} (h : NetKey.ahead a b c d e a' b' c' d' e' = true) : NetKey.ahead a' b' c' d' e' a b c d e = false := by
  unfold NetKey.ahead at h ⊢
  rw [decide_eq_true_eq] at h
  rw [decide_eq_false_iff_not]
  omega
theorem ahead_tr {a b c d e a' b' c' d' e' a2 b2 c2 d2 e2 : Int} (h : NetKey.ahead a b c d e a' b' c' d' e' = true) (h2 : NetKey.ahead a' b' c' d' e' a2 b2 c2 d2 e2 = true) : NetKey.ahead a b c d e a2 b2 c2 d2 e2 = true := by
  unfold NetKey.ahead at h h2 ⊢
  rw [decide_eq_true_eq] at h h2 ⊢
  omega
theorem ahead_ne {a b c d e a' b' c' d' e' : Int} : ((!(b == b') || (!(d == d'))) || ((!(c == c') || (!(e == e'))) || (!(a == a')))) = (NetKey.ahead a b c d e a' b' c' d' e' || NetKey.ahead a' b' c' d' e' a b c d e) := by
  rw [Bool.eq_iff_iff]
  unfold NetKey.ahead
  simp only [Bool.or_eq_true, Bool.not_eq_true', beq_eq_false_iff_ne, decide_eq_true_eq, ne_eq]
  omega
set_option maxHeartbeats 2000000 in
theorem KeyOrders : mantletlaw10_KeyOrders.Pure := by
  intro a0 a1 p0 p1 pr b0 b1 q0 q1 qr c0 c1 u0 u1 ur s h0 h1 h2 h3 h4 g0 g1 g2 g3 g4 i0 i1 i2 i3 i4 hs
  obtain ⟨h00, h01⟩ := wf_u32 h0
  obtain ⟨h10, h11⟩ := wf_u32 h1
  obtain ⟨h20, h21⟩ := wf_u16 h2
  obtain ⟨h30, h31⟩ := wf_u16 h3
  obtain ⟨h40, h41⟩ := wf_u8 h4
  obtain ⟨s0, _⟩ := wf_u8 hs
  clear h0 h1 h2 h3 h4 g0 g1 g2 g3 g4 i0 i1 i2 i3 i4 hs
  refine ⟨81, ?_⟩
  have en : mantletlaw10_KeyOrders.j0 81 s false a0 a1 p0 p1 pr = some true := orders_end 0 s h00 h01 h10 h11 h20 h21 h30 h31 h40 h41 s0
  have ab : key_Less.f 81 a0 a1 p0 p1 pr b0 b1 q0 q1 qr = _ := less_eq 71 a0 a1 p0 p1 pr b0 b1 q0 q1 qr
  have ba : key_Less.f 81 b0 b1 q0 q1 qr a0 a1 p0 p1 pr = _ := less_eq 71 b0 b1 q0 q1 qr a0 a1 p0 p1 pr
  have bc : key_Less.f 81 b0 b1 q0 q1 qr c0 c1 u0 u1 ur = _ := less_eq 71 b0 b1 q0 q1 qr c0 c1 u0 u1 ur
  have ac : key_Less.f 81 a0 a1 p0 p1 pr c0 c1 u0 u1 ur = _ := less_eq 71 a0 a1 p0 p1 pr c0 c1 u0 u1 ur
  have ne : ((!(a0 == b0) || (!(a1 == b1))) || ((!(p0 == q0) || (!(p1 == q1))) || (!(pr == qr)))) = _ := ahead_ne (a := pr) (b := a0) (c := p0) (d := a1) (e := p1) (a' := qr) (b' := b0) (c' := q0) (d' := b1) (e' := q1)
  have tr := fun (x : NetKey.ahead pr a0 p0 a1 p1 qr b0 q0 b1 q1 = true) (y : NetKey.ahead qr b0 q0 b1 q1 ur c0 u0 c1 u1 = true) => ahead_tr x y
  have ir := fun (x : NetKey.ahead pr a0 p0 a1 p1 qr b0 q0 b1 q1 = true) => ahead_irr x
  generalize NetKey.ahead pr a0 p0 a1 p1 qr b0 q0 b1 q1 = AB at *
  generalize NetKey.ahead qr b0 q0 b1 q1 pr a0 p0 a1 p1 = BA at *
  generalize NetKey.ahead qr b0 q0 b1 q1 ur c0 u0 c1 u1 = BC at *
  generalize NetKey.ahead pr a0 p0 a1 p1 ur c0 u0 c1 u1 = AC at *
  unfold mantletlaw10_KeyOrders.f
  rw [ne, ab, ba, bc, ac]
  cases AB
  · cases BA
    · simpa using en
    · simpa using en
  · obtain rfl := ir rfl
    cases BC
    · simpa using en
    · obtain rfl := tr rfl rfl
      simpa using en
end Go.Proofs.Ytplioggeccoleaa.Pure
