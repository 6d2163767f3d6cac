import Derived.Test.YtofjgdbiieanjaaNetUdpB
namespace Go.Proofs.Ytofjgdbiieanjaa.NetUdp
open Go.RowKit Go.Proofs.Ytofjgdbiieanjaa.All Go.Proofs.Ytofjgdbiieanjaa.Ext Go.Proofs.Ytofjgdbiieanjaa.Bits Go.Proofs.YtofjgdbiieanjaaW.PrintWords Go.Proofs.YtofjgdbiieanjaaW.PrintLast Go.Proofs.Ytofjgdbiieanjaa.NetField Go.Proofs.Ytofjgdbiieanjaa.NetSum Go.Proofs.Ytofjgdbiieanjaa.NetRef Go.Proofs.Ytofjgdbiieanjaa.NetTurn
open Go.Proofs.Ytofjgdbiieanjaa.NetTcp (pseudoV pseudoV_range pseudo_eq cut_of)
/-! What is built is whole, and says what it was built of. -/
theorem udp_list {s d f t : Int} (b : List Int) : buildL s d f t b = f / 256 :: f % 256 :: t / 256 :: t % 256 :: ((8 + b.length : Nat) : Int) / 256 :: ((8 + b.length : Nat) : Int) % 256 :: checkV s d f t b / 256 :: checkV s d f t b % 256 :: b := by
  have hc := check_range s d f t b
  unfold buildL
  rw [two_bytes (by omega) hc.2]
  rfl
theorem udp_length (s d f t : Int) (b : List Int) : (buildL s d f t b).length = 8 + b.length := by rw [udp_list]; simp; omega
theorem udp_byte {s d f t : Int} (b : List Int) (f0 : 0 ≤ f) (f1 : f < 65536) (t0 : 0 ≤ t) (t1 : t < 65536) (hl : b.length ≤ 1472) (hb : Byte b) : Byte (buildL s d f t b) := by
  have hc := check_range s d f t b
  rw [udp_list]
  generalize checkV s d f t b = c at *
  iterate 8 refine byte_cons (by omega) ?_
  exact hb
theorem F_full {w : Int} (h : F w = 65535) : F (w + 65535) = 65535 := by
  unfold F at *
  split at h
  · omega
  · split <;> omega
theorem udp_sum {s d f t : Int} (b : List Int) (f0 : 0 ≤ f) (f1 : f < 65536) (t0 : 0 ≤ t) (t1 : t < 65536) (hl : b.length ≤ 1472) (hb : Byte b) :
    F (pseudoV 17 s d ((8 + b.length : Nat) : Int) + WL 0 (buildL s d f t b)) = 65535 := by
  have hw := WL_nonneg (headL f t ((8 + b.length : Nat) : Int) ++ b) 0 (byte_app (headL_byte f0 f1 t0 t1 (by omega) (by omega)) hb)
  have hp := pseudoV_range 17 s d ((8 + b.length : Nat) : Int)
  have e : WL 0 (buildL s d f t b) = WL 0 (headL f t ((8 + b.length : Nat) : Int) ++ b) + checkV s d f t b := by
    rw [udp_list]
    generalize checkV s d f t b = c
    unfold headL
    simp only [WL, List.cons_append, List.nil_append]
    simp only [Nat.reduceAdd, Nat.reduceMod, if_true, if_false, Nat.one_ne_zero]
    omega
  rw [e]
  unfold checkV
  by_cases h : sumV s d f t b = 0
  · rw [if_pos h, ← Int.add_assoc]
    refine F_full ?_
    have h2 : 65535 - F (pseudoV 17 s d ((8 + b.length : Nat) : Int) + WL 0 (headL f t ((8 + b.length : Nat) : Int) ++ b)) = 0 := h
    omega
  · rw [if_neg h, ← Int.add_assoc]
    exact whole (w := pseudoV 17 s d ((8 + b.length : Nat) : Int) + WL 0 (headL f t ((8 + b.length : Nat) : Int) ++ b)) (by omega)
theorem rd_app {l m : List Int} {i : Nat} (h : i < l.length) : rd (l ++ m) (i : Int) = rd l (i : Int) := by
  unfold rd
  rw [Int.toNat_natCast, List.getD_eq_getElem?_getD, List.getD_eq_getElem?_getD, List.getElem?_append_left h]
theorem two_app {l m : List Int} {i : Nat} (h : i + 1 < l.length) : two (l ++ m) i = two l i := by
  unfold two
  rw [rd_app (by omega), rd_app h]
theorem udp_words {s d f t : Int} (b : List Int) : two (buildL s d f t b) 0 = f ∧ two (buildL s d f t b) 2 = t ∧ two (buildL s d f t b) 4 = ((8 + b.length : Nat) : Int) ∧ two (buildL s d f t b) 6 = checkV s d f t b := by
  rw [udp_list]
  refine ⟨?_, ?_, ?_, ?_⟩
  · show 256 * (f / 256) + f % 256 = f; omega
  · show 256 * (t / 256) + t % 256 = t; omega
  · show 256 * (((8 + b.length : Nat) : Int) / 256) + ((8 + b.length : Nat) : Int) % 256 = ((8 + b.length : Nat) : Int); omega
  · show 256 * (checkV s d f t b / 256) + checkV s d f t b % 256 = checkV s d f t b; omega
theorem udp_parsed {s d f t : Int} (b m : List Int) (f0 : 0 ≤ f) (f1 : f < 65536) (t0 : 0 ≤ t) (t1 : t < 65536) (hl : b.length ≤ 1472) (hb : Byte b) : parseV s d (buildL s d f t b ++ m) = (f, t, 0) := by
  have L := udp_length s d f t b
  have S := udp_sum (s := s) (d := d) b f0 f1 t0 t1 hl hb
  obtain ⟨h0, h2, h4, h6⟩ := udp_words (s := s) (d := d) (f := f) (t := t) b
  unfold parseV
  rw [two_app (by omega), two_app (by omega), two_app (by omega), two_app (by omega), h0, h2, h4, h6, List.length_append, Int.toNat_natCast, ← L, List.take_left, L, if_neg (by omega), if_neg (by omega), if_neg (by omega), if_neg (fun h => h.2 S)]
theorem two_turn {l : List Int} {i j m : Nat} (hj : j < l.length) (h : j ≠ i) (h1 : j ≠ i + 1) : two (turnL l j m) i = two l i := by
  unfold two
  rw [turnL_rd hj h, turnL_rd hj h1]
/-- One bit of the ports, or of what it bears, turned. -/
theorem udp_turned {s d f t : Int} (b : List Int) (f0 : 0 ≤ f) (f1 : f < 65536) (t0 : 0 ≤ t) (t1 : t < 65536) (hl : b.length ≤ 1472) (hb : Byte b) {j m : Nat} (hj : j < 8 + b.length) (hm : m < 8) (ho : j < 4 ∨ 8 ≤ j) :
    parseV s d (turnL (buildL s d f t b) j m) = (0, 0, 7) := by
  have L := udp_length s d f t b
  have B := udp_byte (s := s) (d := d) b f0 f1 t0 t1 hl hb
  have S := udp_sum (s := s) (d := d) b f0 f1 t0 t1 hl hb
  have hc := check_range s d f t b
  have T := turnL_sum B S (j := j) (m := m) (by omega) hm
  obtain ⟨h0, h2, h4, h6⟩ := udp_words (s := s) (d := d) (f := f) (t := t) b
  unfold parseV
  rw [two_turn (i := 4) (by omega) (by omega) (by omega), two_turn (i := 6) (by omega) (by omega) (by omega), h4, h6, Int.toNat_natCast, turnL_length, List.take_of_length_le (by rw [turnL_length]; omega), if_neg (by omega), if_neg (by omega), if_neg (by omega), if_pos ⟨by omega, T⟩]
/-- One bit of its length or its checksum turned: something is wrong, or the ports are the same. -/
theorem udp_turned2 {s d f t : Int} (b : List Int) {j m : Nat} (hj : j < 8 + b.length) (ho : 4 ≤ j) : ∃ x y z, parseV s d (turnL (buildL s d f t b) j m) = (x, y, z) ∧ (z = 0 → x = f ∧ y = t) := by
  have L := udp_length s d f t b
  obtain ⟨h0, h2, h4, h6⟩ := udp_words (s := s) (d := d) (f := f) (t := t) b
  unfold parseV
  rw [two_turn (i := 0) (by omega) (by omega) (by omega), two_turn (i := 2) (by omega) (by omega) (by omega), h0, h2]
  split
  · exact ⟨_, _, _, rfl, fun h => by omega⟩
  · split
    · exact ⟨_, _, _, rfl, fun h => by omega⟩
    · split
      · exact ⟨_, _, _, rfl, fun h => by omega⟩
      · split
        · exact ⟨_, _, _, rfl, fun h => by omega⟩
        · exact ⟨_, _, _, rfl, fun _ => ⟨rfl, rfl⟩⟩
end Go.Proofs.Ytofjgdbiieanjaa.NetUdp
