import Derived.Test.YtofjgdbiieanjaaAllx30
import Derived.Test.YtofjgdbiieanjaaNetTcp
namespace Go.Proofs.Ytofjgdbiieanjaa.NetTcp
open Go.RowKit Go.Proofs.Ytofjgdbiieanjaa.All Go.Proofs.Ytofjgdbiieanjaa.Ext Go.Proofs.Ytofjgdbiieanjaa.Bits Go.Proofs.YtofjgdbiieanjaaW.PrintWords Go.Proofs.YtofjgdbiieanjaaW.PrintLast Go.Proofs.Ytofjgdbiieanjaa.NetField Go.Proofs.Ytofjgdbiieanjaa.NetSum Go.Proofs.Ytofjgdbiieanjaa.NetRef
/-! What tcp.Build and its reference come to. -/
/-- A segment, its checksum not yet told. -/
def headL (f t g : Int) (b : List Int) : List Int := bytesL f.toNat 2 ++ (bytesL t.toNat 2 ++ ([0, 0, 0, 0, 0, 0, 0, 0, 80, g, 0, 0, 0, 0, 0, 0] ++ b))
theorem headL_length (f t g : Int) (b : List Int) : (headL f t g b).length = 20 + b.length := by simp [headL, bytesL_length]; omega
theorem headL_byte {g : Int} (f t : Int) {b : List Int} (g0 : 0 ≤ g) (g1 : g < 256) (hb : Byte b) : Byte (headL f t g b) := by
  refine byte_app (byte_bytesL _ _) (byte_app (byte_bytesL _ _) (byte_app ?_ hb))
  intro x hx
  simp only [List.mem_cons, List.not_mem_nil, or_false] at hx
  omega
def checkV (s d f t g : Int) (b : List Int) : Int := 65535 - F (pseudoV 6 s d ((20 + b.length : Nat) : Int) + WL 0 (headL f t g b))
/-- A segment. -/
def buildL (s d f t g : Int) (b : List Int) : List Int := bytesL f.toNat 2 ++ (bytesL t.toNat 2 ++ ([0, 0, 0, 0, 0, 0, 0, 0, 80, g, 0, 0] ++ (bytesL (checkV s d f t g b).toNat 2 ++ ([0, 0] ++ b))))
def buildV (s d f t g : Int) (b : List Int) : List Int × Int := if refSane g = true ∧ g ≤ 63 then (if b.length > 1460 then ([], 2) else (buildL s d f t g b, 0)) else ([], 11)
theorem ends {f t : Int} (f0 : 0 ≤ f) (f1 : f < 65536) (t0 : 0 ≤ t) (t1 : t < 65536) :
    Go.bits .or .u64 (IntKind.u64.wrap ((IntKind.u64.wrap f) * 65536)) (IntKind.u64.wrap t) = f * 65536 + t ∧ bytesL (f * 65536 + t).toNat 4 = bytesL f.toNat 2 ++ bytesL t.toNat 2 := by
  refine ⟨?_, ?_⟩
  · rw [wraps_u64 f f0 (by omega), wraps_u64 t t0 (by omega), wraps_u64 _ (by omega) (by omega), or_join 16 (by omega) (by omega) (by omega) (by omega) (by omega) (by omega)]
  · simp only [bytesL, Nat.reduceMul, Nat.reducePow, List.cons_append, List.nil_append]
    refine List.cons_eq_cons.2 ⟨by omega, List.cons_eq_cons.2 ⟨by omega, List.cons_eq_cons.2 ⟨by omega, List.cons_eq_cons.2 ⟨by omega, rfl⟩⟩⟩⟩
theorem build_eq {s d f t g : Int} (b : List Int) (k : Nat) (s0 : 0 ≤ s) (s1 : s < 4294967296) (d0 : 0 ≤ d) (d1 : d < 4294967296) (f0 : 0 ≤ f) (f1 : f < 65536) (t0 : 0 ≤ t) (t1 : t < 65536) (g0 : 0 ≤ g) (g1 : g < 256) (hb : Byte b) (hl : b.length ≤ 10000) :
    tcp_Build.f (k + 80 + b.length) s d f t g b = some (buildV s d f t g b) := by
  have hh := headL_byte f t g0 g1 hb
  have hlen := headL_length f t g b
  have hp := pseudoV_range 6 s d ((20 + b.length : Nat) : Int)
  have hf := F_range (pseudoV 6 s d ((20 + b.length : Nat) : Int) + WL 0 (headL f t g b))
  have hj : ∀ x, tcp_Build.j0 (k + 80 + b.length) s d f t g b x = some (if x = true then ([], 11) else if b.length > 1460 then ([], 2) else (buildL s d f t g b, 0)) := by
    intro x
    rw [show k + 80 + b.length = (k + 79 + b.length) + 1 by omega]
    simp only [tcp_Build.j0]
    cases x with
    | true => rw [if_pos rfl, if_pos rfl]
    | false =>
      rw [if_neg (show ¬ (false = true) by decide), if_neg (show ¬ (false = true) by decide)]
      by_cases h1 : b.length > 1460
      · rw [if_pos (by omega), if_pos h1]
      · have he := ends f0 f1 t0 t1
        have c1 := cut_of (v := f * 65536 + t) 4 (k + 68 + b.length) (by omega) (by omega) (by omega)
        have hc := concat_eq [bytesL f.toNat 2 ++ bytesL t.toNat 2, List.replicate 8 0, [80, g], List.replicate 6 0, b] (k + 67 + b.length) (by simp) (by simp [bytesL_length]; omega)
        simp only [List.length_cons, List.length_nil, List.flatten_cons, List.flatten_nil, List.append_nil] at hc
        have hL : bytesL f.toNat 2 ++ bytesL t.toNat 2 ++ (List.replicate 8 0 ++ ([80, g] ++ (List.replicate 6 0 ++ b))) = headL f t g b := by
          simp [headL, List.replicate]
        have hps := pseudo_eq (p := 6) (n := ((headL f t g b).length : Int)) (k + 39 + b.length) (by omega) (by omega) s0 s1 d0 d1
        have ha := add_eq (headL f t g b) (s := pseudoV 6 s d ((20 + b.length : Nat) : Int)) (k + 54) hh (by omega) hp.1 hp.2
        have c2 := cut_of (v := checkV s d f t g b) 2 (k + 68 + b.length) (by unfold checkV; omega) (by omega) (by omega)
        rw [hL] at hc
        rw [hlen] at hps ha
        rw [show k + 67 + b.length + 2 + (0 + 1 + 1 + 1 + 1 + 1) + (0 + 1 + 1 + 1 + 1 + 1) = k + 79 + b.length by omega] at hc
        rw [show k + 68 + b.length + 11 = k + 79 + b.length by omega] at c1 c2
        rw [show k + 39 + b.length + 40 = k + 79 + b.length by omega] at hps
        rw [show k + 54 + 5 + (20 + b.length) = k + 79 + b.length by omega] at ha
        rw [show ((4 : Nat) : Int) = 4 from rfl] at c1
        rw [show ((2 : Nat) : Int) = 2 from rfl] at c2
        have hcl : (bytesL (checkV s d f t g b).toNat 2).length = 2 := bytesL_length _ _
        rw [if_neg (by omega), if_neg h1, he.1, c1, he.2, Option.bind_some, if_pos (by omega), if_pos (by omega), hc, Option.bind_some, hlen, if_pos (by omega), hps, Option.bind_some, ha, Option.bind_some, not_u16 (by omega) (by omega), wraps_u64 _ (by omega) (by omega)]
        show ((field_Cut.f (k + 79 + b.length) (checkV s d f t g b) 2).bind _) = _
        rw [c2, Option.bind_some, if_pos (by omega)]
        unfold slices_Clip.f
        rw [Option.bind_some]
        congr 2
  unfold tcp_Build.f buildV
  rw [sane_eq g0 g1, Option.bind_some, (and63 g0 g1).2.2, hj, hj, if_pos rfl]
  by_cases h1 : refSane g = true
  · rw [if_pos h1]
    by_cases h2 : g > 63
    · rw [decide_eq_true h2, if_pos rfl, if_neg (show ¬ (refSane g = true ∧ g ≤ 63) from fun h => by omega)]
    · rw [decide_eq_false h2, if_neg (show ¬ (false = true) by decide), if_pos (show refSane g = true ∧ g ≤ 63 from ⟨h1, by omega⟩)]
  · rw [if_neg h1, if_neg (show ¬ (refSane g = true ∧ g ≤ 63) from fun h => h1 h.1)]
end Go.Proofs.Ytofjgdbiieanjaa.NetTcp
