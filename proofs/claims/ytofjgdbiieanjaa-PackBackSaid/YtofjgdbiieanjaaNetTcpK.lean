import Derived.Test.YtofjgdbiieanjaaNetTcpB
import Derived.Test.YtofjgdbiieanjaaNetTurn
namespace Go.Proofs.Ytofjgdbiieanjaa.NetTcp
open Go.RowKit Go.Proofs.Ytofjgdbiieanjaa.All Go.Proofs.Ytofjgdbiieanjaa.Ext Go.Proofs.Ytofjgdbiieanjaa.Bits Go.Proofs.YtofjgdbiieanjaaW.PrintWords Go.Proofs.YtofjgdbiieanjaaW.PrintLast Go.Proofs.Ytofjgdbiieanjaa.NetField Go.Proofs.Ytofjgdbiieanjaa.NetSum Go.Proofs.Ytofjgdbiieanjaa.NetRef Go.Proofs.Ytofjgdbiieanjaa.NetTurn
/-! What is built is whole, and says what it was built of. -/
theorem check_range (s d f t g : Int) (b : List Int) : 0 ≤ checkV s d f t g b ∧ checkV s d f t g b ≤ 65535 := by
  have hf := F_range (pseudoV 6 s d ((20 + b.length : Nat) : Int) + WL 0 (headL f t g b))
  unfold checkV
  omega
theorem tcp_list {s d f t g : Int} (b : List Int) (f0 : 0 ≤ f) (f1 : f < 65536) (t0 : 0 ≤ t) (t1 : t < 65536) :
    buildL s d f t g b = f / 256 :: f % 256 :: t / 256 :: t % 256 :: 0 :: 0 :: 0 :: 0 :: 0 :: 0 :: 0 :: 0 :: 80 :: g :: 0 :: 0 :: checkV s d f t g b / 256 :: checkV s d f t g b % 256 :: 0 :: 0 :: b := by
  have hc := check_range s d f t g b
  unfold buildL
  rw [two_bytes (by omega) (by omega), two_bytes (by omega) (by omega), two_bytes hc.1 hc.2]
  rfl
theorem head_list {f t g : Int} (b : List Int) (f0 : 0 ≤ f) (f1 : f < 65536) (t0 : 0 ≤ t) (t1 : t < 65536) :
    headL f t g b = f / 256 :: f % 256 :: t / 256 :: t % 256 :: 0 :: 0 :: 0 :: 0 :: 0 :: 0 :: 0 :: 0 :: 80 :: g :: 0 :: 0 :: 0 :: 0 :: 0 :: 0 :: b := by
  unfold headL
  rw [two_bytes (by omega) (by omega), two_bytes (by omega) (by omega)]
  rfl
theorem tcp_length (s d f t g : Int) (b : List Int) : (buildL s d f t g b).length = 20 + b.length := by
  unfold buildL
  simp [bytesL_length]; omega
theorem tcp_byte {s d f t g : Int} (b : List Int) (f0 : 0 ≤ f) (f1 : f < 65536) (t0 : 0 ≤ t) (t1 : t < 65536) (g0 : 0 ≤ g) (g1 : g < 256) (hb : Byte b) : Byte (buildL s d f t g b) := by
  have hc := check_range s d f t g b
  rw [tcp_list b f0 f1 t0 t1]
  generalize checkV s d f t g b = c at *
  iterate 20 refine byte_cons (by omega) ?_
  exact hb
theorem tcp_sum {s d f t g : Int} (b : List Int) (f0 : 0 ≤ f) (f1 : f < 65536) (t0 : 0 ≤ t) (t1 : t < 65536) (g0 : 0 ≤ g) (g1 : g < 256) (hb : Byte b) :
    F (pseudoV 6 s d ((20 + b.length : Nat) : Int) + WL 0 (buildL s d f t g b)) = 65535 := by
  have hw := WL_nonneg (headL f t g b) 0 (headL_byte f t g0 g1 hb)
  have hp := pseudoV_range 6 s d ((20 + b.length : Nat) : Int)
  have e : WL 0 (buildL s d f t g b) = WL 0 (headL f t g b) + checkV s d f t g b := by
    rw [tcp_list b f0 f1 t0 t1, head_list b f0 f1 t0 t1]
    generalize checkV s d f t g b = c
    simp only [WL]
    simp only [Nat.reduceAdd, Nat.reduceMod, if_true, if_false, Nat.one_ne_zero]
    omega
  rw [e]
  unfold checkV
  have h := whole (w := pseudoV 6 s d ((20 + b.length : Nat) : Int) + WL 0 (headL f t g b)) (by omega)
  rwa [Int.add_assoc] at h
/-- Between the two the other way round, the sum is one. -/
theorem pseudo_turn (p s d n : Int) : pseudoV p s d n = pseudoV p d s n := by
  unfold pseudoV pseudoL
  rw [WL_append, WL_append, WL_append (bytesL d.toNat 4), WL_append (bytesL s.toNat 4)]
  simp only [bytesL_length]
  rw [WL_even (bytesL d.toNat 4) (0 + 4) 0 (by omega), WL_even (bytesL s.toNat 4) (0 + 4) 0 (by omega)]
  congr 1
  omega
theorem tcp_parsed {s d f t g : Int} (b : List Int) (f0 : 0 ≤ f) (f1 : f < 65536) (t0 : 0 ≤ t) (t1 : t < 65536) (g0 : 0 ≤ g) (g1 : g < 256) (hb : Byte b) (hg : refSane g = true ∧ g ≤ 63) :
    parseV s d (buildL s d f t g b) = (f, t, g, 0) := by
  have L := tcp_length s d f t g b
  have S := tcp_sum (s := s) (d := d) b f0 f1 t0 t1 g0 g1 hb
  have h12 : rd (buildL s d f t g b) 12 = 80 := by rw [tcp_list b f0 f1 t0 t1]; rfl
  have h13 : rd (buildL s d f t g b) 13 = g := by rw [tcp_list b f0 f1 t0 t1]; rfl
  have h0 : two (buildL s d f t g b) 0 = f := by
    unfold two
    rw [show rd (buildL s d f t g b) ((0 : Nat) : Int) = f / 256 by rw [tcp_list b f0 f1 t0 t1]; rfl, show rd (buildL s d f t g b) ((0 + 1 : Nat) : Int) = f % 256 by rw [tcp_list b f0 f1 t0 t1]; rfl]
    omega
  have h2 : two (buildL s d f t g b) 2 = t := by
    unfold two
    rw [show rd (buildL s d f t g b) ((2 : Nat) : Int) = t / 256 by rw [tcp_list b f0 f1 t0 t1]; rfl, show rd (buildL s d f t g b) ((2 + 1 : Nat) : Int) = t % 256 by rw [tcp_list b f0 f1 t0 t1]; rfl]
    omega
  unfold parseV
  rw [if_neg (by omega), h12, if_neg (by omega), if_neg (by omega), L, if_neg (fun h => h S), h13, show g % 64 = g by omega, if_pos hg.1, h0, h2]
theorem tcp_crossed {s d : Int} (l : List Int) : parseV d s l = parseV s d l := by
  unfold parseV
  rw [pseudo_turn]
theorem tcp_turned {s d : Int} {l : List Int} (hb : Byte l) (h : F (pseudoV 6 s d (l.length : Int) + WL 0 l) = 65535) {j m : Nat} (hj : j < l.length) (hm : m < 8) :
    ∃ x, parseV s d (turnL l j m) = (0, 0, 0, x) ∧ (x = 7 ∨ x = 6 ∨ x = 4) := by
  have hs := turnL_sum hb h hj hm
  unfold parseV
  rw [turnL_length, if_pos hs]
  split
  · exact ⟨4, rfl, by omega⟩
  · split
    · exact ⟨6, rfl, by omega⟩
    · split
      · exact ⟨4, rfl, by omega⟩
      · exact ⟨7, rfl, by omega⟩
end Go.Proofs.Ytofjgdbiieanjaa.NetTcp
