import Derived.Test.YtjmdidbhocmhgaaFieldWordFld
namespace Go.Proofs.Ytjmdidbhocmhgaa.WordFld
open Go.RowKit Go.Proofs.Ytjmdidbhocmhgaa.Fld Go.Proofs.Ytjmdidbhocmhgaa.Bits Go.Proofs.YtjmdidbhocmhgaaW.PrintWords Go.Proofs.YtjmdidbhocmhgaaW.PrintLast
/-! What the references of the fields come to. -/
theorem awake : mantletlaw01_awake.f 200 = some true := by kernel_rfl
/-- One bit more at the end of a number. -/
theorem bit_in {o n s : Nat} {b : Bool} (h : n + 1 ≤ s) (hs : s ≤ 64) (ho : o < 2 ^ (s - (n + 1))) : o * 2 + b.toNat < 2 ^ (s - n) ∧ o * 2 + b.toNat < 2 ^ 64 := by
  have e : 2 ^ (s - n) = 2 ^ (s - (n + 1)) * 2 := by rw [← Nat.pow_succ]; congr 1; omega
  have hb : b.toNat ≤ 1 := Bool.toNat_le b
  have h2 : 2 ^ (s - n) ≤ 2 ^ 64 := Nat.pow_le_pow_right (by decide) (by omega)
  omega
theorem wrap_bit {o : Nat} {b : Bool} (h : o * 2 + b.toNat < 2 ^ 64) : IntKind.u64.wrap (IntKind.u64.wrap ((o : Int) * 2) + ((b.toNat : Nat) : Int)) = ((o * 2 + b.toNat : Nat) : Int) := by
  rw [wrap_u64, wrap_u64]
  omega
theorem refGet_loop (w a s : Nat) (hw : w < 2 ^ 64) (hs : a + s ≤ 64) (n : Nat) : ∀ (k o : Nat), n ≤ s → o < 2 ^ (s - n) →
    mantletref01_Get.l0 (k + 1 + n) (w : Int) (a : Int) (o : Int) ((n : Int) - 1) = some ((o * 2 ^ n + ofB (fun j => w.testBit (a + j)) n : Nat) : Int) := by
  induction n with
  | zero =>
    intro k o _ _
    simp only [mantletref01_Get.l0]
    rw [if_neg (by omega)]
    simp [ofB]
  | succ n ih =>
    intro k o hn ho
    rw [show k + 1 + (n + 1) = (k + 1 + n) + 1 by omega]
    obtain ⟨b1, b2⟩ := bit_in (b := w.testBit (a + n)) hn (by omega) ho
    simp only [mantletref01_Get.l0]
    have e1 : IntKind.u64.wrap (wrap64 ((a : Int) + (((n + 1 : Nat) : Int) - 1))) = ((a + n : Nat) : Int) := by rw [w64 (by omega) (by omega), wrap_u64]; omega
    rw [if_pos (by omega), e1, if_pos (by omega), bit_of w (a + n) hw (by omega), wrap_bit b2, w64 (by omega) (by omega), show ((n + 1 : Nat) : Int) - 1 - 1 = (n : Int) - 1 by omega, ih k _ (by omega) b1]
    congr 2
    rw [ofB, Nat.add_mul, Nat.pow_succ]
    have : o * (2 ^ n * 2) = o * 2 * 2 ^ n := by rw [Nat.mul_comm (2 ^ n) 2, Nat.mul_assoc]
    omega
theorem ofB_get (w a s : Nat) : ofB (fun j => w.testBit (a + j)) s = w / 2 ^ a % 2 ^ s := by
  rw [← ofB_bits]
  apply ofB_congr
  intro i _
  rw [Nat.testBit_div_two_pow, Nat.add_comm]
theorem refGet_yes (w a s k : Nat) (hw : w < 2 ^ 64) (h1 : 1 ≤ s) (hs : a + s ≤ 64) : mantletref01_Get.f (k + 67) (w : Int) (a : Int) (s : Int) = some ((w / 2 ^ a % 2 ^ s : Nat) : Int) := by
  have hn := refGet_loop w a s hw hs s (k + 65 - s) 0 (by omega) (Nat.two_pow_pos _)
  rw [show k + 65 - s + 1 + s = k + 66 by omega, ofB_get] at hn
  unfold mantletref01_Get.f
  rw [if_neg (by omega), if_neg (by omega), if_neg (by omega), w64 (by omega) (by omega), decide_eq_false (by omega)]
  simp only [mantletref01_Get.j0]
  rw [if_neg (by decide), w64 (by omega) (by omega)]
  simpa using hn
theorem refGet_no {w a s : Int} (k : Nat) (h : ¬ (0 ≤ a ∧ 1 ≤ s ∧ s ≤ 64 ∧ a ≤ 64 - s)) : mantletref01_Get.f (k + 1) w a s = some 0 := by
  unfold mantletref01_Get.f
  have hj : mantletref01_Get.j0 (k + 1) w a s true = some 0 := by simp only [mantletref01_Get.j0]; rw [if_pos trivial]
  by_cases c1 : a < 0
  · rw [if_pos c1, hj]
  · rw [if_neg c1]
    by_cases c2 : s < 1
    · rw [if_pos c2, hj]
    · rw [if_neg c2]
      by_cases c3 : s > 64
      · rw [if_pos c3, hj]
      · rw [if_neg c3, w64 (by omega) (by omega), decide_eq_true (by omega), hj]
theorem refPut_loop (w a s v : Nat) (hw : w < 2 ^ 64) (hv : v < 2 ^ 64) (hs : a + s ≤ 64) (n : Nat) : ∀ (k o : Nat), n ≤ 64 → o < 2 ^ (64 - n) →
    mantletref01_Put.l0 (k + 1 + n) (w : Int) (a : Int) (s : Int) (v : Int) (o : Int) ((n : Int) - 1) = some ((o * 2 ^ n + ofB (fun j => if a ≤ j ∧ j < a + s then v.testBit (j - a) else w.testBit j) n : Nat) : Int) := by
  induction n with
  | zero =>
    intro k o _ _
    simp only [mantletref01_Put.l0]
    rw [if_neg (by omega)]
    simp [ofB]
  | succ n ih =>
    intro k o hn ho
    rw [show k + 1 + (n + 1) = (k + 1 + n) + 1 by omega]
    simp only [mantletref01_Put.l0]
    have e1 : IntKind.u64.wrap (((n + 1 : Nat) : Int) - 1) = ((n : Nat) : Int) := by rw [wrap_u64]; omega
    have e3 : wrap64 (((n + 1 : Nat) : Int) - 1 - 1) = (n : Int) - 1 := by rw [w64 (by omega) (by omega)]; omega
    have hfin : ∀ b : Bool, b = (if a ≤ n ∧ n < a + s then v.testBit (n - a) else w.testBit n) →
        mantletref01_Put.l0 (k + 1 + n) (w : Int) (a : Int) (s : Int) (v : Int) (IntKind.u64.wrap (IntKind.u64.wrap ((o : Int) * 2) + ((b.toNat : Nat) : Int))) ((n : Int) - 1) = some ((o * 2 ^ (n + 1) + ofB (fun j => if a ≤ j ∧ j < a + s then v.testBit (j - a) else w.testBit j) (n + 1) : Nat) : Int) := by
      intro b hb
      obtain ⟨b1, b2⟩ := bit_in (b := b) hn (by omega) ho
      rw [wrap_bit b2, ih k _ (by omega) b1]
      congr 2
      rw [ofB, Nat.add_mul, Nat.pow_succ, ← hb]
      have : o * (2 ^ n * 2) = o * 2 * 2 ^ n := by rw [Nat.mul_comm (2 ^ n) 2, Nat.mul_assoc]
      omega
    rw [if_pos (by omega), e1, if_pos (by omega), w64 (n := (a : Int) + (s : Int)) (by omega) (by omega), bit_of w n hw (by omega), e3]
    by_cases c1 : a ≤ n
    · rw [if_pos (by omega)]
      by_cases c2 : n < a + s
      · have e2 : IntKind.u64.wrap (wrap64 (((n + 1 : Nat) : Int) - 1 - (a : Int))) = ((n - a : Nat) : Int) := by rw [w64 (by omega) (by omega), wrap_u64]; omega
        rw [if_pos (by omega), e2, if_pos (by omega), bit_of v (n - a) hv (by omega)]
        exact hfin _ (by rw [if_pos ⟨c1, c2⟩])
      · rw [if_neg (by omega)]
        exact hfin _ (by rw [if_neg (by omega)])
    · rw [if_neg (by omega)]
      exact hfin _ (by rw [if_neg (by omega)])
theorem refPut_yes (w a s v k : Nat) (hw : w < 2 ^ 64) (hv : v < 2 ^ 64) (h1 : 1 ≤ s) (hs : a + s ≤ 64) : mantletref01_Put.f (k + 66) (w : Int) (a : Int) (s : Int) (v : Int) = some ((putN w a s v : Nat) : Int) := by
  have hn := refPut_loop w a s v hw hv hs 64 k 0 (by omega) (Nat.two_pow_pos _)
  have e : ofB (fun j => if a ≤ j ∧ j < a + s then v.testBit (j - a) else w.testBit j) 64 = putN w a s v := by
    rw [← Nat.mod_eq_of_lt (putN_lt (v := v) hw hs), ← ofB_bits]
    apply ofB_congr
    intro i _
    rw [putN_bit]
  rw [e] at hn
  unfold mantletref01_Put.f
  rw [if_neg (by omega), if_neg (by omega), if_neg (by omega), w64 (by omega) (by omega), decide_eq_false (by omega)]
  simp only [mantletref01_Put.j0]
  rw [if_neg (by decide)]
  simpa using hn
theorem refPut_no {w a s v : Int} (k : Nat) (h : ¬ (0 ≤ a ∧ 1 ≤ s ∧ s ≤ 64 ∧ a ≤ 64 - s)) : mantletref01_Put.f (k + 1) w a s v = some w := by
  unfold mantletref01_Put.f
  have hj : mantletref01_Put.j0 (k + 1) w a s v true = some w := by simp only [mantletref01_Put.j0]; rw [if_pos trivial]
  by_cases c1 : a < 0
  · rw [if_pos c1, hj]
  · rw [if_neg c1]
    by_cases c2 : s < 1
    · rw [if_pos c2, hj]
    · rw [if_neg c2]
      by_cases c3 : s > 64
      · rw [if_pos c3, hj]
      · rw [if_neg c3, w64 (by omega) (by omega), decide_eq_true (by omega), hj]
theorem wrap_less {r T : Nat} (h : r < T) (hT : T ≤ 9223372036854775808) : wrap64 (wrap64 (r : Int) - wrap64 (T : Int)) = (r : Int) - (T : Int) := by
  rw [w64 (n := (r : Int)) (by omega) (by omega)]
  by_cases c : T = 9223372036854775808
  · have e : wrap64 (T : Int) = -9223372036854775808 := by unfold wrap64; omega
    rw [e]
    unfold wrap64
    omega
  · rw [w64 (n := (T : Int)) (by omega) (by omega), w64 (by omega) (by omega)]
theorem refSign_yes (v s k : Nat) (hv : v < 2 ^ 64) (h1 : 1 ≤ s) (hs : s ≤ 64) : mantletref01_Sign.f (k + 68) (v : Int) (s : Int) = some (signV v s) := by
  unfold mantletref01_Sign.f
  rw [if_neg (by omega), decide_eq_false (by omega)]
  simp only [mantletref01_Sign.j0]
  have hg := refGet_yes v 0 s k hv h1 (by omega)
  rw [show ((0 : Nat) : Int) = 0 from rfl, Nat.pow_zero, Nat.div_one] at hg
  have hlt : v % 2 ^ s < 2 ^ s := Nat.mod_lt _ (Nat.two_pow_pos _)
  have hh := half s h1
  have h64 : 2 ^ s ≤ 2 ^ 64 := Nat.pow_le_pow_right (by decide) hs
  have e1 : IntKind.u64.wrap (wrap64 ((s : Int) - 1)) = ((s - 1 : Nat) : Int) := by rw [w64 (by omega) (by omega), wrap_u64]; omega
  rw [if_neg (by decide), hg, Option.bind_some, e1, if_pos (by omega), shr_nat _ _ (by omega)]
  unfold signV
  generalize hR : v % 2 ^ s = r at *
  generalize hP : 2 ^ (s - 1) = P at *
  have hP0 : 0 < P := by rw [← hP]; exact Nat.two_pow_pos _
  by_cases c : r ≥ P
  · have e2 : r / P = 1 := by rw [Nat.div_eq_iff hP0]; omega
    rw [if_pos c, e2, if_pos (show ((1 : Nat) : Int) = 1 from rfl)]
    by_cases c2 : s < 64
    · have e3 : IntKind.u64.wrap (s : Int) = ((s : Nat) : Int) := by rw [wrap_u64]; omega
      rw [if_pos (by omega), e3, if_pos (by omega)]
      have h63 : 2 ^ s ≤ 2 ^ 63 := Nat.pow_le_pow_right (by decide) (by omega)
      have e4 : shl .i64 1 (s : Int) = wrap64 ((2 ^ s : Nat) : Int) := by
        unfold shl
        rw [show min ((s : Int)).toNat IntKind.i64.bits = s by simp [IntKind.bits]; omega, i64_w, Int.one_mul]
        simp
      rw [e4]
      have h63' : 2 ^ s ≤ 9223372036854775808 := h63
      rw [wrap_less hlt h63']
    · rw [if_neg (by omega)]
      have e64 : 2 ^ s = 18446744073709551616 := by rw [show s = 64 by omega]
      rw [e64] at hlt hh ⊢
      have e5 : wrap64 (r : Int) = (r : Int) - ((18446744073709551616 : Nat) : Int) := by unfold wrap64; omega
      rw [e5]
  · have e2 : r / P = 0 := Nat.div_eq_of_lt (by omega)
    rw [if_neg c, e2, if_neg (by decide), w64 (by omega) (by omega)]
theorem refSign_no {v s : Int} (k : Nat) (h : ¬ (1 ≤ s ∧ s ≤ 64)) : mantletref01_Sign.f (k + 1) v s = some 0 := by
  unfold mantletref01_Sign.f
  have hj : mantletref01_Sign.j0 (k + 1) v s true = some 0 := by simp only [mantletref01_Sign.j0]; rw [if_pos trivial]
  by_cases c2 : s < 1
  · rw [if_pos c2, hj]
  · rw [if_neg c2, decide_eq_true (by omega), hj]
theorem rd_cut {l : List Int} {a s j : Nat} (hj : j < s) : rd (cutL l a s) (j : Int) = rd l ((a + j : Nat) : Int) := by
  unfold rd cutL
  rw [Int.toNat_natCast, Int.toNat_natCast, List.getD_eq_getElem?_getD, List.getD_eq_getElem?_getD, List.getElem?_drop, List.getElem?_take_of_lt (by omega)]
theorem refNum_loop (l : List Int) (a s : Nat) (hb : ∀ x ∈ l, 0 ≤ x ∧ x < 256) (h8 : s ≤ 8) (hl : a + s ≤ l.length) (hm : l.length ≤ 9223372036854775807) (d : Nat) : ∀ (k i : Nat) (x : Int), i + d = s → 0 ≤ x → x < 256 ^ i →
    mantletref01_Num.l0 (k + 1 + d) l (a : Int) (s : Int) x ((a + i : Nat) : Int) = some (numL x ((cutL l a s).drop i), true) := by
  have hlen := cutL_length hl
  induction d with
  | zero =>
    intro k i x h _ _
    simp only [mantletref01_Num.l0]
    rw [w64 (by omega) (by omega), if_neg (by omega), List.drop_of_length_le (by omega)]
    rfl
  | succ d ih =>
    intro k i x h h0 h2
    rw [show k + 1 + (d + 1) = (k + 1 + d) + 1 by omega]
    simp only [mantletref01_Num.l0]
    obtain ⟨r0, r1⟩ := rd_range hb (show a + i < l.length by omega)
    have e3 : (256 : Int) ^ (i + 1) ≤ 18446744073709551616 := pow256 (by omega)
    rw [Int.pow_succ] at e3
    have e4 : IntKind.u64.wrap (IntKind.u64.wrap (x * 256) + IntKind.u64.wrap (rd l ((a + i : Nat) : Int))) = x * 256 + rd l ((a + i : Nat) : Int) := by
      rw [wrap_u64, wrap_u64, wrap_u64]
      omega
    rw [w64 (n := (a : Int) + (s : Int)) (by omega) (by omega), if_pos (by omega), if_pos (by omega), if_pos (by omega), e4, w64 (by omega) (by omega), rd_cons (show i < (cutL l a s).length by omega), numL_cons, rd_cut (by omega)]
    refine ih k (i + 1) _ (by omega) (by omega) ?_
    rw [Int.pow_succ]; omega
theorem refNum_yes (l : List Int) (a s k : Nat) (hb : ∀ x ∈ l, 0 ≤ x ∧ x < 256) (h1 : 1 ≤ s) (h8 : s ≤ 8) (h : a + s ≤ l.length) (hl : l.length ≤ 9223372036854775807) :
    mantletref01_Num.f (k + 11) l (a : Int) (s : Int) = some (numL 0 (cutL l a s), true) := by
  have hn := refNum_loop l a s hb h8 h hl s (k + 9 - s) 0 0 (by omega) (by omega) (by omega)
  rw [show k + 9 - s + 1 + s = k + 10 by omega, Nat.add_zero] at hn
  unfold mantletref01_Num.f
  rw [if_neg (by omega), if_neg (by omega), if_neg (by omega), if_neg (by omega), w64 (by omega) (by omega), decide_eq_false (by omega)]
  simp only [mantletref01_Num.j0]
  rw [if_neg (by decide)]
  exact hn
theorem refNum_no {l : List Int} {a s : Int} (k : Nat) (h : ¬ (0 ≤ a ∧ 1 ≤ s ∧ s ≤ 8 ∧ a ≤ l.length - s)) (hl : l.length ≤ 9223372036854775807) : mantletref01_Num.f (k + 1) l a s = some (0, false) := by
  unfold mantletref01_Num.f
  have hj : mantletref01_Num.j0 (k + 1) l a s true = some (0, false) := by simp only [mantletref01_Num.j0]; rw [if_pos trivial]
  by_cases c1 : a < 0
  · rw [if_pos c1, hj]
  · rw [if_neg c1]
    by_cases c2 : s < 1
    · rw [if_pos c2, hj]
    · rw [if_neg c2]
      by_cases c3 : s > 8
      · rw [if_pos c3, hj]
      · rw [if_neg c3]
        by_cases c4 : a > (l.length : Int)
        · rw [if_pos c4, hj]
        · rw [if_neg c4, w64 (by omega) (by omega), decide_eq_true (by omega), hj]
theorem refCut_loop (v : Nat) (n : Nat) : ∀ (k : Nat) (y : List Int), n ≤ 8 → y.length + n ≤ 8 → mantletref01_Cut.l0 (k + 1 + n) (v : Int) y ((n : Int) - 1) = some (y ++ bytesL v n) := by
  induction n with
  | zero =>
    intro k y _ _
    simp only [mantletref01_Cut.l0]
    rw [if_neg (by omega)]
    simp [bytesL]
  | succ n ih =>
    intro k y hn hy
    rw [show k + 1 + (n + 1) = (k + 1 + n) + 1 by omega]
    simp only [mantletref01_Cut.l0]
    have e1 : IntKind.u64.wrap (wrap64 (8 * (((n + 1 : Nat) : Int) - 1))) = ((8 * n : Nat) : Int) := by rw [w64 (by omega) (by omega), wrap_u64]; omega
    rw [if_pos (by omega), e1, if_pos (by omega), if_pos (by omega), shr_nat _ _ (by omega), w64 (by omega) (by omega), show ((n + 1 : Nat) : Int) - 1 - 1 = (n : Int) - 1 by omega, ih k _ (by omega) (by simp; omega)]
    rw [bytesL, List.append_assoc]
    simp
theorem refCut_yes (v s k : Nat) (h1 : 1 ≤ s) (h8 : s ≤ 8) : mantletref01_Cut.f (k + 11) (v : Int) (s : Int) = some (bytesL v s) := by
  have hn := refCut_loop v s (k + 9 - s) [] h8 (by simpa using h8)
  rw [show k + 9 - s + 1 + s = k + 10 by omega] at hn
  unfold mantletref01_Cut.f
  rw [Option.bind_some, if_neg (by omega), decide_eq_false (by omega)]
  simp only [mantletref01_Cut.j0]
  rw [if_neg (by decide), w64 (by omega) (by omega)]
  simpa using hn
theorem refCut_no {v s : Int} (k : Nat) (h : ¬ (1 ≤ s ∧ s ≤ 8)) : mantletref01_Cut.f (k + 1) v s = some [] := by
  unfold mantletref01_Cut.f
  have hj : mantletref01_Cut.j0 (k + 1) v s [] true = some [] := by simp only [mantletref01_Cut.j0]; rw [if_pos trivial]
  rw [Option.bind_some]
  by_cases c1 : s < 1
  · rw [if_pos c1, hj]
  · rw [if_neg c1, decide_eq_true (by omega), hj]
end Go.Proofs.Ytjmdidbhocmhgaa.WordFld
