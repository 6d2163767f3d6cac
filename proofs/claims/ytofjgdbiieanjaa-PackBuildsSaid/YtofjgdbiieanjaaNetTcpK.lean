import Derived.Test.YtofjgdbiieanjaaAllx25
import Derived.Test.YtofjgdbiieanjaaAllx49
import Derived.Test.YtofjgdbiieanjaaNetPs
import Derived.Test.YtofjgdbiieanjaaAllx30
import Derived.Test.YtofjgdbiieanjaaNetTurn
namespace Go.Proofs.Ytofjgdbiieanjaa.NetTcp
open Go.RowKit Go.Proofs.Ytofjgdbiieanjaa.All Go.Proofs.Ytofjgdbiieanjaa.Ext Go.Proofs.Ytofjgdbiieanjaa.Bits Go.Proofs.YtofjgdbiieanjaaW.PrintWords Go.Proofs.YtofjgdbiieanjaaW.PrintLast Go.Proofs.Ytofjgdbiieanjaa.NetField Go.Proofs.Ytofjgdbiieanjaa.NetSum Go.Proofs.Ytofjgdbiieanjaa.NetRef
/-! What tcp and its reference come to. -/
/-- What holds of each of the 256 bytes holds of a byte. -/
theorem byte_all {f : Int → Bool} (h : ((List.range 256).all fun n => f (n : Int)) = true) {a : Int} (h0 : 0 ≤ a) (h1 : a < 256) : f a = true := by
  have h2 := List.all_eq_true.1 h a.toNat (List.mem_range.2 (by omega))
  rwa [show ((a.toNat : Nat) : Int) = a by omega] at h2
theorem sane_all : ((List.range 256).all fun n => tcp_Sane.f (n : Int) == some (refSane (n : Int))) = true := by kernel_rfl
theorem sane_eq {a : Int} (h0 : 0 ≤ a) (h1 : a < 256) : tcp_Sane.f a = some (refSane a) := eq_of_beq (byte_all (f := fun a => tcp_Sane.f a == some (refSane a)) sane_all h0 h1)
theorem refSane_eq {a : Int} (h0 : 0 ≤ a) (h1 : a < 256) : mantletref05_Sane.f a = some (refSane a) := by unfold mantletref05_Sane.f; rw [if_pos ⟨h0, h1⟩]
theorem and63_all : ((List.range 256).all fun n => (Go.bits .and .u8 (n : Int) 63 == (n : Int) % 64) && (refSane ((n : Int) % 64) == refSane (n : Int)) && (((Go.bits .andNot .u8 (n : Int) 63) != 0) == decide ((n : Int) > 63))) = true := by kernel_rfl
theorem and63 {a : Int} (h0 : 0 ≤ a) (h1 : a < 256) : Go.bits .and .u8 a 63 = a % 64 ∧ refSane (a % 64) = refSane a ∧ ((Go.bits .andNot .u8 a 63) != 0) = decide (a > 63) := by
  have h := byte_all (f := fun n => (Go.bits .and .u8 n 63 == n % 64) && (refSane (n % 64) == refSane n) && (((Go.bits .andNot .u8 n 63) != 0) == decide (n > 63))) and63_all h0 h1
  simp only [Bool.and_eq_true, beq_iff_eq] at h
  exact ⟨h.1.1, h.1.2, h.2⟩
/-- What a segment says, or what is wrong. -/
def parseV (s d : Int) (l : List Int) : Int × Int × Int × Int :=
  if l.length < 20 then (0, 0, 0, 4) else if 4 * (rd l 12 / 16) < 20 then (0, 0, 0, 6) else if 4 * (rd l 12 / 16) > l.length then (0, 0, 0, 4)
  else if F (pseudoV 6 s d l.length + WL 0 l) ≠ 65535 then (0, 0, 0, 7) else if refSane (rd l 13 % 64) = true then (two l 0, two l 2, rd l 13 % 64, 0) else (0, 0, 0, 11)
theorem parse_eq {s d : Int} (l : List Int) (k : Nat) (s0 : 0 ≤ s) (s1 : s < 4294967296) (d0 : 0 ≤ d) (d1 : d < 4294967296) (hb : Byte l) (hl : l.length ≤ 10000) :
    tcp_Parse.f (k + 40 + l.length) s d l = some (parseV s d l) := by
  unfold tcp_Parse.f parseV
  by_cases h20 : l.length < 20
  · rw [if_pos (by omega), if_pos h20]
  · have b12 := rd_byte hb (i := 12) (by omega)
    have b13 := rd_byte hb (i := 13) (by omega)
    rw [show ((12 : Nat) : Int) = 12 from rfl] at b12
    rw [show ((13 : Nat) : Int) = 13 from rfl] at b13
    have ew : wrap64 ((wrap64 (rd l 12 / 16)) * 4) = 4 * (rd l 12 / 16) := by rw [w64 (n := rd l 12 / 16) (by omega) (by omega), w64 (by omega) (by omega)]; omega
    rw [if_neg (by omega), if_neg h20, if_pos (by omega), if_pos (by omega), ew]
    by_cases h6 : 4 * (rd l 12 / 16) < 20
    · rw [if_pos h6, if_pos h6]
    · rw [if_neg h6, if_neg h6]
      by_cases h4 : 4 * (rd l 12 / 16) > l.length
      · rw [if_pos h4, if_pos h4]
      · have hp := pseudoV_range 6 s d l.length
        have hps := pseudo_eq (p := 6) (n := (l.length : Int)) (k + l.length) (by omega) (by omega) s0 s1 d0 d1
        have hs := add_eq l (s := pseudoV 6 s d l.length) (k + 35) hb (by omega) hp.1 hp.2
        rw [show k + l.length + 40 = k + 40 + l.length by omega] at hps
        rw [show k + 35 + 5 + l.length = k + 40 + l.length by omega] at hs
        rw [if_neg h4, if_neg h4, hps, Option.bind_some, hs, Option.bind_some]
        by_cases h7 : F (pseudoV 6 s d l.length + WL 0 l) = 65535
        · have ha := and63 b13.1 b13.2
          have n0 := num2 (l := l) hb (i := 0) (k + 29 + l.length) (by omega) (by omega)
          have n2 := num2 (l := l) hb (i := 2) (k + 29 + l.length) (by omega) (by omega)
          rw [show k + 29 + l.length + 11 = k + 40 + l.length by omega] at n0 n2
          rw [show ((0 : Nat) : Int) = 0 from rfl] at n0
          rw [show ((2 : Nat) : Int) = 2 from rfl] at n2
          have t0 := two_range hb (i := 0) (by omega)
          have t2 := two_range hb (i := 2) (by omega)
          rw [if_pos h7, if_neg (show ¬ (F (pseudoV 6 s d l.length + WL 0 l) ≠ 65535) from fun h => h h7), ha.1, sane_eq (by omega) (by omega), Option.bind_some]
          by_cases hsn : refSane (rd l 13 % 64) = true
          · rw [if_pos hsn, if_pos hsn, n0, Option.bind_some, n2, Option.bind_some]
            dsimp only
            rw [wrap_u16, wrap_u16, Int.emod_eq_of_lt (by omega) (by omega), Int.emod_eq_of_lt (by omega) (by omega)]
          · rw [if_neg hsn, if_neg hsn]
        · rw [if_neg h7, if_pos (show F (pseudoV 6 s d l.length + WL 0 l) ≠ 65535 from h7)]
end Go.Proofs.Ytofjgdbiieanjaa.NetTcp
namespace Go.Proofs.Ytofjgdbiieanjaa.NetTcp
open Go.RowKit Go.Proofs.Ytofjgdbiieanjaa.All Go.Proofs.Ytofjgdbiieanjaa.Ext Go.Proofs.Ytofjgdbiieanjaa.Bits Go.Proofs.YtofjgdbiieanjaaW.PrintWords Go.Proofs.YtofjgdbiieanjaaW.PrintLast Go.Proofs.Ytofjgdbiieanjaa.NetField Go.Proofs.Ytofjgdbiieanjaa.NetSum Go.Proofs.Ytofjgdbiieanjaa.NetRef
/-! What tcp.Build and its reference come to. -/
/-- A segment, its checksum not yet told. -/
def headL (f t g : Int) (b : List Int) : List Int := bytesL f.toNat 2 ++ (bytesL t.toNat 2 ++ ([0, 0, 0, 0, 0, 0, 0, 0, 80, g, 0, 0, 0, 0, 0, 0] ++ b))
theorem headL_length (f t g : Int) (b : List Int) : (headL f t g b).length = 20 + b.length := by simp [headL, bytesL_length]; omega
theorem headL_byte {g : Int} (f t : Int) {b : List Int} (g0 : 0 ≤ g) (g1 : g < 256) (hb : Byte b) : Byte (headL f t g b) := by
  refine byte_app (byte_bytesL _ _) (byte_app (byte_bytesL _ _) (byte_app ?_ hb))
  intro x hx
  simp only [List.mem_cons, List.not_mem_nil, or_false] at hx
  omega
def checkV (s d f t g : Int) (b : List Int) : Int := 65535 - F (pseudoV 6 s d ((20 + b.length : Nat) : Int) + WL 0 (headL f t g b))
/-- A segment. -/
def buildL (s d f t g : Int) (b : List Int) : List Int := bytesL f.toNat 2 ++ (bytesL t.toNat 2 ++ ([0, 0, 0, 0, 0, 0, 0, 0, 80, g, 0, 0] ++ (bytesL (checkV s d f t g b).toNat 2 ++ ([0, 0] ++ b))))
def buildV (s d f t g : Int) (b : List Int) : List Int × Int := if refSane g = true ∧ g ≤ 63 then (if b.length > 1460 then ([], 2) else (buildL s d f t g b, 0)) else ([], 11)
theorem ends {f t : Int} (f0 : 0 ≤ f) (f1 : f < 65536) (t0 : 0 ≤ t) (t1 : t < 65536) :
    Go.bits .or .u64 (IntKind.u64.wrap ((IntKind.u64.wrap f) * 65536)) (IntKind.u64.wrap t) = f * 65536 + t ∧ bytesL (f * 65536 + t).toNat 4 = bytesL f.toNat 2 ++ bytesL t.toNat 2 := by
  refine ⟨?_, ?_⟩
  · rw [wraps_u64 f f0 (by omega), wraps_u64 t t0 (by omega), wraps_u64 _ (by omega) (by omega), or_join 16 (by omega) (by omega) (by omega) (by omega) (by omega) (by omega)]
  · simp only [bytesL, Nat.reduceMul, Nat.reducePow, List.cons_append, List.nil_append]
    refine List.cons_eq_cons.2 ⟨by omega, List.cons_eq_cons.2 ⟨by omega, List.cons_eq_cons.2 ⟨by omega, List.cons_eq_cons.2 ⟨by omega, rfl⟩⟩⟩⟩
theorem build_eq {s d f t g : Int} (b : List Int) (k : Nat) (s0 : 0 ≤ s) (s1 : s < 4294967296) (d0 : 0 ≤ d) (d1 : d < 4294967296) (f0 : 0 ≤ f) (f1 : f < 65536) (t0 : 0 ≤ t) (t1 : t < 65536) (g0 : 0 ≤ g) (g1 : g < 256) (hb : Byte b) (hl : b.length ≤ 10000) :
    tcp_Build.f (k + 80 + b.length) s d f t g b = some (buildV s d f t g b) := by
  have hh := headL_byte f t g0 g1 hb
  have hlen := headL_length f t g b
  have hp := pseudoV_range 6 s d ((20 + b.length : Nat) : Int)
  have hf := F_range (pseudoV 6 s d ((20 + b.length : Nat) : Int) + WL 0 (headL f t g b))
  have hj : ∀ x, tcp_Build.j0 (k + 80 + b.length) s d f t g b x = some (if x = true then ([], 11) else if b.length > 1460 then ([], 2) else (buildL s d f t g b, 0)) := by
    intro x
    rw [show k + 80 + b.length = (k + 79 + b.length) + 1 by omega]
    simp only [tcp_Build.j0]
    cases x with
    | true => rw [if_pos rfl, if_pos rfl]
    | false =>
      rw [if_neg (show ¬ (false = true) by decide), if_neg (show ¬ (false = true) by decide)]
      by_cases h1 : b.length > 1460
      · rw [if_pos (by omega), if_pos h1]
      · have he := ends f0 f1 t0 t1
        have c1 := cut_of (v := f * 65536 + t) 4 (k + 68 + b.length) (by omega) (by omega) (by omega)
        have hc := concat_eq [bytesL f.toNat 2 ++ bytesL t.toNat 2, List.replicate 8 0, [80, g], List.replicate 6 0, b] (k + 67 + b.length) (by simp) (by simp [bytesL_length]; omega)
        simp only [List.length_cons, List.length_nil, List.flatten_cons, List.flatten_nil, List.append_nil] at hc
        have hL : bytesL f.toNat 2 ++ bytesL t.toNat 2 ++ (List.replicate 8 0 ++ ([80, g] ++ (List.replicate 6 0 ++ b))) = headL f t g b := by
          simp [headL, List.replicate]
        have hps := pseudo_eq (p := 6) (n := ((headL f t g b).length : Int)) (k + 39 + b.length) (by omega) (by omega) s0 s1 d0 d1
        have ha := add_eq (headL f t g b) (s := pseudoV 6 s d ((20 + b.length : Nat) : Int)) (k + 54) hh (by omega) hp.1 hp.2
        have c2 := cut_of (v := checkV s d f t g b) 2 (k + 68 + b.length) (by unfold checkV; omega) (by omega) (by omega)
        rw [hL] at hc
        rw [hlen] at hps ha
        rw [show k + 67 + b.length + 2 + (0 + 1 + 1 + 1 + 1 + 1) + (0 + 1 + 1 + 1 + 1 + 1) = k + 79 + b.length by omega] at hc
        rw [show k + 68 + b.length + 11 = k + 79 + b.length by omega] at c1 c2
        rw [show k + 39 + b.length + 40 = k + 79 + b.length by omega] at hps
        rw [show k + 54 + 5 + (20 + b.length) = k + 79 + b.length by omega] at ha
        rw [show ((4 : Nat) : Int) = 4 from rfl] at c1
        rw [show ((2 : Nat) : Int) = 2 from rfl] at c2
        have hcl : (bytesL (checkV s d f t g b).toNat 2).length = 2 := bytesL_length _ _
        rw [if_neg (by omega), if_neg h1, he.1, c1, he.2, Option.bind_some, if_pos (by omega), if_pos (by omega), hc, Option.bind_some, hlen, if_pos (by omega), hps, Option.bind_some, ha, Option.bind_some, not_u16 (by omega) (by omega), wraps_u64 _ (by omega) (by omega)]
        show ((field_Cut.f (k + 79 + b.length) (checkV s d f t g b) 2).bind _) = _
        rw [c2, Option.bind_some, if_pos (by omega)]
        unfold slices_Clip.f
        rw [Option.bind_some]
        congr 2
  unfold tcp_Build.f buildV
  rw [sane_eq g0 g1, Option.bind_some, (and63 g0 g1).2.2, hj, hj, if_pos rfl]
  by_cases h1 : refSane g = true
  · rw [if_pos h1]
    by_cases h2 : g > 63
    · rw [decide_eq_true h2, if_pos rfl, if_neg (show ¬ (refSane g = true ∧ g ≤ 63) from fun h => by omega)]
    · rw [decide_eq_false h2, if_neg (show ¬ (false = true) by decide), if_pos (show refSane g = true ∧ g ≤ 63 from ⟨h1, by omega⟩)]
  · rw [if_neg h1, if_neg (show ¬ (refSane g = true ∧ g ≤ 63) from fun h => h1 h.1)]
end Go.Proofs.Ytofjgdbiieanjaa.NetTcp
namespace Go.Proofs.Ytofjgdbiieanjaa.NetTcp
open Go.RowKit Go.Proofs.Ytofjgdbiieanjaa.All Go.Proofs.Ytofjgdbiieanjaa.Ext Go.Proofs.Ytofjgdbiieanjaa.Bits Go.Proofs.YtofjgdbiieanjaaW.PrintWords Go.Proofs.YtofjgdbiieanjaaW.PrintLast Go.Proofs.Ytofjgdbiieanjaa.NetField Go.Proofs.Ytofjgdbiieanjaa.NetSum Go.Proofs.Ytofjgdbiieanjaa.NetRef Go.Proofs.Ytofjgdbiieanjaa.NetTurn
/-! What is built is whole, and says what it was built of. -/
theorem check_range (s d f t g : Int) (b : List Int) : 0 ≤ checkV s d f t g b ∧ checkV s d f t g b ≤ 65535 := by
  have hf := F_range (pseudoV 6 s d ((20 + b.length : Nat) : Int) + WL 0 (headL f t g b))
  unfold checkV
  omega
theorem tcp_list {s d f t g : Int} (b : List Int) (f0 : 0 ≤ f) (f1 : f < 65536) (t0 : 0 ≤ t) (t1 : t < 65536) :
    buildL s d f t g b = f / 256 :: f % 256 :: t / 256 :: t % 256 :: 0 :: 0 :: 0 :: 0 :: 0 :: 0 :: 0 :: 0 :: 80 :: g :: 0 :: 0 :: checkV s d f t g b / 256 :: checkV s d f t g b % 256 :: 0 :: 0 :: b := by
  have hc := check_range s d f t g b
  unfold buildL
  rw [two_bytes (by omega) (by omega), two_bytes (by omega) (by omega), two_bytes hc.1 hc.2]
  rfl
theorem head_list {f t g : Int} (b : List Int) (f0 : 0 ≤ f) (f1 : f < 65536) (t0 : 0 ≤ t) (t1 : t < 65536) :
    headL f t g b = f / 256 :: f % 256 :: t / 256 :: t % 256 :: 0 :: 0 :: 0 :: 0 :: 0 :: 0 :: 0 :: 0 :: 80 :: g :: 0 :: 0 :: 0 :: 0 :: 0 :: 0 :: b := by
  unfold headL
  rw [two_bytes (by omega) (by omega), two_bytes (by omega) (by omega)]
  rfl
theorem tcp_length (s d f t g : Int) (b : List Int) : (buildL s d f t g b).length = 20 + b.length := by
  unfold buildL
  simp [bytesL_length]; omega
theorem tcp_byte {s d f t g : Int} (b : List Int) (f0 : 0 ≤ f) (f1 : f < 65536) (t0 : 0 ≤ t) (t1 : t < 65536) (g0 : 0 ≤ g) (g1 : g < 256) (hb : Byte b) : Byte (buildL s d f t g b) := by
  have hc := check_range s d f t g b
  rw [tcp_list b f0 f1 t0 t1]
  generalize checkV s d f t g b = c at *
  iterate 20 refine byte_cons (by omega) ?_
  exact hb
theorem tcp_sum {s d f t g : Int} (b : List Int) (f0 : 0 ≤ f) (f1 : f < 65536) (t0 : 0 ≤ t) (t1 : t < 65536) (g0 : 0 ≤ g) (g1 : g < 256) (hb : Byte b) :
    F (pseudoV 6 s d ((20 + b.length : Nat) : Int) + WL 0 (buildL s d f t g b)) = 65535 := by
  have hw := WL_nonneg (headL f t g b) 0 (headL_byte f t g0 g1 hb)
  have hp := pseudoV_range 6 s d ((20 + b.length : Nat) : Int)
  have e : WL 0 (buildL s d f t g b) = WL 0 (headL f t g b) + checkV s d f t g b := by
    rw [tcp_list b f0 f1 t0 t1, head_list b f0 f1 t0 t1]
    generalize checkV s d f t g b = c
    simp only [WL]
    simp only [Nat.reduceAdd, Nat.reduceMod, if_true, if_false, Nat.one_ne_zero]
    omega
  rw [e]
  unfold checkV
  have h := whole (w := pseudoV 6 s d ((20 + b.length : Nat) : Int) + WL 0 (headL f t g b)) (by omega)
  rwa [Int.add_assoc] at h
/-- Between the two the other way round, the sum is one. -/
theorem pseudo_turn (p s d n : Int) : pseudoV p s d n = pseudoV p d s n := by
  unfold pseudoV pseudoL
  rw [WL_append, WL_append, WL_append (bytesL d.toNat 4), WL_append (bytesL s.toNat 4)]
  simp only [bytesL_length]
  rw [WL_even (bytesL d.toNat 4) (0 + 4) 0 (by omega), WL_even (bytesL s.toNat 4) (0 + 4) 0 (by omega)]
  congr 1
  omega
theorem tcp_parsed {s d f t g : Int} (b : List Int) (f0 : 0 ≤ f) (f1 : f < 65536) (t0 : 0 ≤ t) (t1 : t < 65536) (g0 : 0 ≤ g) (g1 : g < 256) (hb : Byte b) (hg : refSane g = true ∧ g ≤ 63) :
    parseV s d (buildL s d f t g b) = (f, t, g, 0) := by
  have L := tcp_length s d f t g b
  have S := tcp_sum (s := s) (d := d) b f0 f1 t0 t1 g0 g1 hb
  have h12 : rd (buildL s d f t g b) 12 = 80 := by rw [tcp_list b f0 f1 t0 t1]; rfl
  have h13 : rd (buildL s d f t g b) 13 = g := by rw [tcp_list b f0 f1 t0 t1]; rfl
  have h0 : two (buildL s d f t g b) 0 = f := by
    unfold two
    rw [show rd (buildL s d f t g b) ((0 : Nat) : Int) = f / 256 by rw [tcp_list b f0 f1 t0 t1]; rfl, show rd (buildL s d f t g b) ((0 + 1 : Nat) : Int) = f % 256 by rw [tcp_list b f0 f1 t0 t1]; rfl]
    omega
  have h2 : two (buildL s d f t g b) 2 = t := by
    unfold two
    rw [show rd (buildL s d f t g b) ((2 : Nat) : Int) = t / 256 by rw [tcp_list b f0 f1 t0 t1]; rfl, show rd (buildL s d f t g b) ((2 + 1 : Nat) : Int) = t % 256 by rw [tcp_list b f0 f1 t0 t1]; rfl]
    omega
  unfold parseV
  rw [if_neg (by omega), h12, if_neg (by omega), if_neg (by omega), L, if_neg (fun h => h S), h13, show g % 64 = g by omega, if_pos hg.1, h0, h2]
theorem tcp_crossed {s d : Int} (l : List Int) : parseV d s l = parseV s d l := by
  unfold parseV
  rw [pseudo_turn]
theorem tcp_turned {s d : Int} {l : List Int} (hb : Byte l) (h : F (pseudoV 6 s d (l.length : Int) + WL 0 l) = 65535) {j m : Nat} (hj : j < l.length) (hm : m < 8) :
    ∃ x, parseV s d (turnL l j m) = (0, 0, 0, x) ∧ (x = 7 ∨ x = 6 ∨ x = 4) := by
  have hs := turnL_sum hb h hj hm
  unfold parseV
  rw [turnL_length, if_pos hs]
  split
  · exact ⟨4, rfl, by omega⟩
  · split
    · exact ⟨6, rfl, by omega⟩
    · split
      · exact ⟨4, rfl, by omega⟩
      · exact ⟨7, rfl, by omega⟩
end Go.Proofs.Ytofjgdbiieanjaa.NetTcp
