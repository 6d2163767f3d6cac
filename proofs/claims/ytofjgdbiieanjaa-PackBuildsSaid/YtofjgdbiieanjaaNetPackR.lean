import Derived.Test.YtofjgdbiieanjaaAllx58
import Derived.Test.YtofjgdbiieanjaaNetIpK
import Derived.Test.YtofjgdbiieanjaaAllx28
import Derived.Test.YtofjgdbiieanjaaAllx53
import Derived.Test.YtofjgdbiieanjaaNetPs
import Derived.Test.YtofjgdbiieanjaaAllx33
import Derived.Test.YtofjgdbiieanjaaNetTcpK
import Derived.Test.YtofjgdbiieanjaaAllx45
import Derived.Test.YtofjgdbiieanjaaNetUdpK
import Derived.Test.YtofjgdbiieanjaaAllx20
import Derived.Test.YtofjgdbiieanjaaNetIcmpK
import Derived.Test.YtofjgdbiieanjaaAllx74
import Derived.Test.YtofjgdbiieanjaaNetPack
namespace Go.Proofs.Ytofjgdbiieanjaa.NetIp
open Go.RowKit Go.Proofs.Ytofjgdbiieanjaa.All Go.Proofs.Ytofjgdbiieanjaa.Ext Go.Proofs.Ytofjgdbiieanjaa.Bits Go.Proofs.YtofjgdbiieanjaaW.PrintWords Go.Proofs.YtofjgdbiieanjaaW.PrintLast Go.Proofs.Ytofjgdbiieanjaa.NetField Go.Proofs.Ytofjgdbiieanjaa.NetSum Go.Proofs.Ytofjgdbiieanjaa.NetRef
theorem refBuild_eq {p s d t i : Int} (z1 z2 : Int) (b : List Int) (k : Nat) (p0 : 0 ≤ p) (p1 : p < 256) (s0 : 0 ≤ s) (s1 : s < 4294967296) (d0 : 0 ≤ d) (d1 : d < 4294967296) (t0 : 0 ≤ t) (t1 : t < 256) (i0 : 0 ≤ i) (i1 : i < 65536) (hl : b.length ≤ 10000) :
    mantletref04_Build.f (k + 80) p s d z1 z2 t i b = some (buildV p s d t i b) := by
  have hfb := front_byte i b.length p0 p1 t0 t1
  have htb := tail_byte s d
  have hcr := check_range p s d t i b.length
  have hF := WL_head p s d t i b.length
  unfold mantletref04_Build.f buildV
  by_cases h1 : b.length > 1480
  · rw [if_pos (by omega), if_pos h1]
  · have ha := ref_eq (frontL p t i b.length ++ tailL s d) (s := 0) (k + 61) (byte_app hfb htb) (by rw [List.length_append, front_length, tail_length]; omega) (by omega) (by omega)
    rw [List.length_append, front_length, tail_length, show k + 61 + 1 + (10 + 8) = k + 80 by omega, Int.zero_add, ← hF] at ha
    have e1 : [69, 0] ++ bytesL (20 + b.length) 2 ++ bytesL i.toNat 2 ++ [0, 0, t, p] = frontL p t i b.length := by simp [frontL]
    have e2 : bytesL s.toNat 4 ++ bytesL d.toNat 4 = tailL s d := rfl
    have e20 : (wrap64 (20 + (b.length : Int))) = ((20 + b.length : Nat) : Int) := by rw [w64 (by omega) (by omega)]; omega
    rw [if_neg (by omega), if_neg h1, Option.bind_some, e20, put_two (by omega) (by omega), Int.toNat_natCast, Option.bind_some, if_pos (by simp [bytesL_length]), Option.bind_some, w64 (n := i) (by omega) (by omega), put_two i0 (by omega), Option.bind_some, if_pos (by simp [bytesL_length]), Option.bind_some, Option.bind_some, if_pos (by simp [bytesL_length]), Option.bind_some, wide_eq s0 s1, wide_eq d0 d1, Option.bind_some, Option.bind_some, if_pos (by simp [bytesL_length]), Option.bind_some, Option.bind_some, e1, e2, if_pos (by simp [front_length]), Option.bind_some, List.nil_append, if_pos (by simp [front_length, tail_length]), ha, Option.bind_some]
    show ((mantletref04_Put.f (wrap64 (checkV p s d t i b.length))).bind _) = _
    rw [w64 (by omega) (by omega), put_two hcr.1 hcr.2, Option.bind_some, if_pos (by simp [front_length, bytesL_length]), Option.bind_some, if_pos (by simp [front_length, tail_length, bytesL_length]), Option.bind_some, if_pos (by simp [front_length, tail_length, bytesL_length]; omega)]
    congr 2
end Go.Proofs.Ytofjgdbiieanjaa.NetIp
namespace Go.Proofs.Ytofjgdbiieanjaa.NetTcp
open Go.RowKit Go.Proofs.Ytofjgdbiieanjaa.All Go.Proofs.Ytofjgdbiieanjaa.Ext Go.Proofs.Ytofjgdbiieanjaa.Bits Go.Proofs.YtofjgdbiieanjaaW.PrintWords Go.Proofs.YtofjgdbiieanjaaW.PrintLast Go.Proofs.Ytofjgdbiieanjaa.NetField Go.Proofs.Ytofjgdbiieanjaa.NetSum Go.Proofs.Ytofjgdbiieanjaa.NetRef
theorem wide_eq {a : Int} (h0 : 0 ≤ a) (h1 : a < 4294967296) : mantletref04_Wide.f a = some (bytesL a.toNat 4) := by
  unfold mantletref04_Wide.f
  have e1 : Int.tdiv a 65536 % 4294967296 = a / 65536 := by rw [Int.tdiv_eq_ediv_of_nonneg h0]; omega
  have e2 : wrap64 (Int.tmod a 65536) = a % 65536 := by rw [Int.tmod_eq_emod_of_nonneg h0, w64 (by omega) (by omega)]
  rw [e1, e2, put_two (by omega) (by omega), put_two (by omega) (by omega), Option.bind_some, Option.bind_some, if_pos (by rw [bytesL_length, bytesL_length]; omega)]
  congr 1
  simp only [bytesL, Nat.reduceMul, Nat.reducePow, List.cons_append, List.nil_append]
  refine List.cons_eq_cons.2 ⟨by omega, List.cons_eq_cons.2 ⟨by omega, List.cons_eq_cons.2 ⟨by omega, List.cons_eq_cons.2 ⟨by omega, rfl⟩⟩⟩⟩
theorem refPseudo_eq {p s d n : Int} (k : Nat) (p0 : 0 ≤ p) (p1 : p < 256) (s0 : 0 ≤ s) (s1 : s < 4294967296) (d0 : 0 ≤ d) (d1 : d < 4294967296) :
    mantletref05_Pseudo.f (k + 40) p s d n = some (pseudoV p s d n) := by
  have hw : 0 ≤ IntKind.u64.wrap n ∧ IntKind.u64.wrap n < 18446744073709551616 := by rw [wrap_u64]; omega
  have ha := ref_eq (pseudoL p s d n) (s := 0) (k + 27) (pseudoL_byte s d n p0 p1) (by rw [pseudoL_length]; omega) (by omega) (by omega)
  rw [pseudoL_length, Int.zero_add, show k + 27 + 1 + 12 = k + 40 by omega] at ha
  have e1 : [(IntKind.u64.wrap (Int.tdiv (IntKind.u64.wrap n) 256)) % 256, (IntKind.u64.wrap n) % 256] = bytesL (IntKind.u64.wrap n).toNat 2 := by
    generalize IntKind.u64.wrap n = m at hw
    rw [Int.tdiv_eq_ediv_of_nonneg hw.1, wraps_u64 _ (by omega) (by omega)]
    simp only [bytesL, Nat.reduceMul, Nat.reducePow]
    refine List.cons_eq_cons.2 ⟨by omega, List.cons_eq_cons.2 ⟨by omega, rfl⟩⟩
  unfold mantletref05_Pseudo.f
  rw [wide_eq s0 s1, wide_eq d0 d1, Option.bind_some, Option.bind_some, if_pos (by rw [bytesL_length, bytesL_length]; omega), Option.bind_some, Option.bind_some, if_pos (by simp [bytesL_length]), Option.bind_some, e1, Option.bind_some, if_pos (by simp [bytesL_length])]
  rw [show bytesL s.toNat 4 ++ bytesL d.toNat 4 ++ [0, p] ++ bytesL (IntKind.u64.wrap n).toNat 2 = pseudoL p s d n by simp [pseudoL], ha, Option.bind_some]
  rfl
end Go.Proofs.Ytofjgdbiieanjaa.NetTcp
namespace Go.Proofs.Ytofjgdbiieanjaa.NetTcp
open Go.RowKit Go.Proofs.Ytofjgdbiieanjaa.All Go.Proofs.Ytofjgdbiieanjaa.Ext Go.Proofs.Ytofjgdbiieanjaa.Bits Go.Proofs.YtofjgdbiieanjaaW.PrintWords Go.Proofs.YtofjgdbiieanjaaW.PrintLast Go.Proofs.Ytofjgdbiieanjaa.NetField Go.Proofs.Ytofjgdbiieanjaa.NetSum Go.Proofs.Ytofjgdbiieanjaa.NetRef
theorem refBuild_eq {s d f t g : Int} (b : List Int) (k : Nat) (s0 : 0 ≤ s) (s1 : s < 4294967296) (d0 : 0 ≤ d) (d1 : d < 4294967296) (f0 : 0 ≤ f) (f1 : f < 65536) (t0 : 0 ≤ t) (t1 : t < 65536) (g0 : 0 ≤ g) (g1 : g < 256) (hb : Byte b) (hl : b.length ≤ 10000) :
    mantletref05_Build.f (k + 80 + b.length) s d f t g b = some (buildV s d f t g b) := by
  have hh := headL_byte f t g0 g1 hb
  have hlen := headL_length f t g b
  have hp := pseudoV_range 6 s d ((20 + b.length : Nat) : Int)
  have hf := F_range (pseudoV 6 s d ((20 + b.length : Nat) : Int) + WL 0 (headL f t g b))
  have hj : ∀ x, mantletref05_Build.j0 (k + 80 + b.length) s d f t g b x = some (if x = true then ([], 11) else if b.length > 1460 then ([], 2) else (buildL s d f t g b, 0)) := by
    intro x
    rw [show k + 80 + b.length = (k + 79 + b.length) + 1 by omega]
    simp only [mantletref05_Build.j0]
    cases x with
    | true => rw [if_pos rfl, if_pos rfl]
    | false =>
      rw [if_neg (show ¬ (false = true) by decide), if_neg (show ¬ (false = true) by decide)]
      by_cases h1 : b.length > 1460
      · rw [if_pos (by omega), if_pos h1]
      · have hps := refPseudo_eq (p := 6) (n := ((headL f t g b).length : Int)) (k + 39 + b.length) (by omega) (by omega) s0 s1 d0 d1
        have ha := ref_eq (headL f t g b) (s := pseudoV 6 s d ((20 + b.length : Nat) : Int)) (k + 58) hh (by omega) hp.1 hp.2
        rw [hlen] at hps ha
        rw [show k + 39 + b.length + 40 = k + 79 + b.length by omega] at hps
        rw [show k + 58 + 1 + (20 + b.length) = k + 79 + b.length by omega] at ha
        have eL : [] ++ (bytesL f.toNat 2 ++ bytesL t.toNat 2 ++ [0, 0, 0, 0, 0, 0, 0, 0, 80, g, 0, 0]) ++ [0, 0] ++ ([0, 0] ++ b) = headL f t g b := by simp [headL]
        rw [if_neg (by omega), if_neg h1, w64 (n := f) (by omega) (by omega), w64 (n := t) (by omega) (by omega), put_two f0 (by omega), put_two t0 (by omega), Option.bind_some, Option.bind_some, if_pos (by rw [bytesL_length, bytesL_length]; omega), Option.bind_some, Option.bind_some, if_pos (by simp [bytesL_length]), Option.bind_some, Option.bind_some, if_pos (by simp; omega), Option.bind_some, Option.bind_some, if_pos (by simp [bytesL_length]), Option.bind_some, Option.bind_some, if_pos (by simp [bytesL_length]), Option.bind_some, if_pos (by simp [bytesL_length]; omega), Option.bind_some, eL, hlen, hps, Option.bind_some, ha, Option.bind_some, w64 (by omega) (by omega), put_two (by omega) (by omega), Option.bind_some, if_pos (by simp [bytesL_length]), Option.bind_some, if_pos (by simp [bytesL_length]; omega)]
        congr 2
  unfold mantletref05_Build.f buildV
  rw [refSane_eq g0 g1, Option.bind_some, hj, hj, if_pos rfl]
  by_cases h1 : refSane g = true
  · rw [if_pos h1]
    by_cases h2 : g > 63
    · rw [decide_eq_true h2, if_pos rfl, if_neg (show ¬ (refSane g = true ∧ g ≤ 63) from fun h => by omega)]
    · rw [decide_eq_false h2, if_neg (show ¬ (false = true) by decide), if_pos (show refSane g = true ∧ g ≤ 63 from ⟨h1, by omega⟩)]
  · rw [if_neg h1, if_neg (show ¬ (refSane g = true ∧ g ≤ 63) from fun h => h1 h.1)]
end Go.Proofs.Ytofjgdbiieanjaa.NetTcp
namespace Go.Proofs.Ytofjgdbiieanjaa.NetUdp
open Go.RowKit Go.Proofs.Ytofjgdbiieanjaa.All Go.Proofs.Ytofjgdbiieanjaa.Ext Go.Proofs.Ytofjgdbiieanjaa.Bits Go.Proofs.YtofjgdbiieanjaaW.PrintWords Go.Proofs.YtofjgdbiieanjaaW.PrintLast Go.Proofs.Ytofjgdbiieanjaa.NetField Go.Proofs.Ytofjgdbiieanjaa.NetSum Go.Proofs.Ytofjgdbiieanjaa.NetRef
open Go.Proofs.Ytofjgdbiieanjaa.NetTcp (pseudoV pseudoV_range pseudo_eq refPseudo_eq cut_of)
open Go.Proofs.Ytofjgdbiieanjaa.NetTurn (two_bytes)
theorem refBuild_eq {s d f t : Int} (b : List Int) (k : Nat) (s0 : 0 ≤ s) (s1 : s < 4294967296) (d0 : 0 ≤ d) (d1 : d < 4294967296) (f0 : 0 ≤ f) (f1 : f < 65536) (t0 : 0 ≤ t) (t1 : t < 65536) (hb : Byte b) (hl : b.length ≤ 10000) :
    mantletref06_Build.f (k + 80 + b.length) s d f t b = some (buildV s d f t b) := by
  have ew : wrap64 (8 + (b.length : Int)) = ((8 + b.length : Nat) : Int) := by rw [w64 (by omega) (by omega)]; omega
  unfold mantletref06_Build.f buildV
  rw [ew]
  by_cases h1 : b.length > 1472
  · rw [if_pos (by omega), if_pos h1]
  · have hh := headL_byte (n := ((8 + b.length : Nat) : Int)) f0 f1 t0 t1 (by omega) (by omega)
    have hlen : (headL f t ((8 + b.length : Nat) : Int)).length = 8 := rfl
    have hp := pseudoV_range 17 s d ((8 + b.length : Nat) : Int)
    have hr := sum_range s d f t b
    have hc := check_range s d f t b
    have hf := F_range (pseudoV 17 s d ((8 + b.length : Nat) : Int) + WL 0 (headL f t ((8 + b.length : Nat) : Int) ++ b))
    have hps := refPseudo_eq (p := 17) (n := ((8 + b.length : Nat) : Int)) (k + 40 + b.length) (by omega) (by omega) s0 s1 d0 d1
    have ha := ref_eq (headL f t ((8 + b.length : Nat) : Int) ++ b) (s := pseudoV 17 s d ((8 + b.length : Nat) : Int)) (k + 71) (byte_app hh hb) (by rw [List.length_append]; omega) hp.1 hp.2
    rw [show k + 40 + b.length + 40 = k + 80 + b.length by omega] at hps
    rw [List.length_append, hlen, show k + 71 + 1 + (8 + b.length) = k + 80 + b.length by omega] at ha
    have b2 : bytesL f.toNat 2 = [f / 256, f % 256] := two_bytes (by omega) (by omega)
    have b3 : bytesL t.toNat 2 = [t / 256, t % 256] := two_bytes (by omega) (by omega)
    have b4 : bytesL ((8 + b.length : Nat) : Int).toNat 2 = [((8 + b.length : Nat) : Int) / 256, ((8 + b.length : Nat) : Int) % 256] := two_bytes (by omega) (by omega)
    rw [if_neg (by omega), if_neg h1, w64 (n := f) (by omega) (by omega), w64 (n := t) (by omega) (by omega), put_two (by omega) (by omega), Option.bind_some, put_two (by omega) (by omega), Option.bind_some, b2, b3, if_pos (by simp), Option.bind_some, put_two (by omega) (by omega), Option.bind_some, b4, if_pos (by simp), Option.bind_some, hps, Option.bind_some, Option.bind_some, if_pos (by simp), Option.bind_some, Option.bind_some, if_pos (by simp), Option.bind_some, if_pos (by simp; omega)]
    have eL : ([] ++ ([f / 256, f % 256] ++ [t / 256, t % 256] ++ [((8 + b.length : Nat) : Int) / 256, ((8 + b.length : Nat) : Int) % 256]) ++ [0, 0] ++ b : List Int) = headL f t ((8 + b.length : Nat) : Int) ++ b := rfl
    rw [eL, ha, Option.bind_some, w64 (by omega) (by omega)]
    by_cases hz : sumV s d f t b = 0
    · have hz2 : 65535 - F (pseudoV 17 s d ((8 + b.length : Nat) : Int) + WL 0 (headL f t ((8 + b.length : Nat) : Int) ++ b)) = 0 := hz
      have hck : checkV s d f t b = 65535 := by unfold checkV; rw [if_pos hz]
      rw [if_pos hz2, put_two (by omega) (by omega), Option.bind_some, if_pos (by simp [bytesL_length]), Option.bind_some, if_pos (by simp [bytesL_length]; omega)]
      unfold buildL
      rw [hck]
      rfl
    · have hz2 : ¬ 65535 - F (pseudoV 17 s d ((8 + b.length : Nat) : Int) + WL 0 (headL f t ((8 + b.length : Nat) : Int) ++ b)) = 0 := hz
      have hck : checkV s d f t b = 65535 - F (pseudoV 17 s d ((8 + b.length : Nat) : Int) + WL 0 (headL f t ((8 + b.length : Nat) : Int) ++ b)) := by unfold checkV; rw [if_neg hz]; rfl
      rw [if_neg hz2, put_two (by omega) (by omega), Option.bind_some, if_pos (by simp [bytesL_length]), Option.bind_some, if_pos (by simp [bytesL_length]; omega), ← hck]
      unfold buildL
      simp
end Go.Proofs.Ytofjgdbiieanjaa.NetUdp
namespace Go.Proofs.Ytofjgdbiieanjaa.NetIcmp
open Go.RowKit Go.Proofs.Ytofjgdbiieanjaa.All Go.Proofs.Ytofjgdbiieanjaa.Ext Go.Proofs.Ytofjgdbiieanjaa.Bits Go.Proofs.YtofjgdbiieanjaaW.PrintWords Go.Proofs.YtofjgdbiieanjaaW.PrintLast Go.Proofs.Ytofjgdbiieanjaa.NetField Go.Proofs.Ytofjgdbiieanjaa.NetSum Go.Proofs.Ytofjgdbiieanjaa.NetRef
theorem refBuild_eq {a i : Int} (b : List Int) (k : Nat) (a0 : 0 ≤ a) (a1 : a < 256) (i0 : 0 ≤ i) (i1 : i < 65536) (hb : Byte b) (hl : b.length ≤ 10000) :
    mantletref07_Build.f (k + 40 + b.length) a i b = some (buildV a i b) := by
  have hh := head_byte a0 a1 i0 i1
  have hlen : (headL a i).length = 8 := rfl
  have hf := F_range (WL 0 (headL a i ++ b))
  have hj : ∀ x, mantletref07_Build.j0 (k + 40 + b.length) a i b x = some (if x = true then ([], 10) else if b.length > 1472 then ([], 2) else (buildL a i b, 0)) := by
    intro x
    rw [show k + 40 + b.length = (k + 39 + b.length) + 1 by omega]
    simp only [mantletref07_Build.j0]
    cases x with
    | true => rw [if_pos rfl, if_pos rfl]
    | false =>
      rw [if_neg (show ¬ (false = true) by decide), if_neg (show ¬ (false = true) by decide)]
      by_cases h1 : b.length > 1472
      · rw [if_pos (by omega), if_pos h1]
      · have hi2 : bytesL i.toNat 2 = [i / 256, i % 256] := by
          simp only [bytesL, Nat.reduceMul, Nat.reducePow]
          refine List.cons_eq_cons.2 ⟨by omega, List.cons_eq_cons.2 ⟨by omega, rfl⟩⟩
        have ha := ref_eq (headL a i ++ b) (s := 0) (k + 30) (byte_app hh hb) (by rw [List.length_append]; omega) (by omega) (by omega)
        rw [List.length_append, hlen, show k + 30 + 1 + (8 + b.length) = k + 39 + b.length by omega, Int.zero_add] at ha
        have ea : [a, 0, 0, 0] ++ ([i / 256, i % 256] ++ [0, 0] ++ b) = headL a i ++ b := rfl
        rw [if_neg (by omega), if_neg h1, w64 (by omega) (by omega), put_two (by omega) (by omega), Option.bind_some, Option.bind_some, hi2, if_pos (by simp), Option.bind_some, if_pos (by simp; omega), Option.bind_some, Option.bind_some, if_pos (by simp; omega), ea, ha, Option.bind_some, Option.bind_some, w64 (by omega) (by omega), put_two (by omega) (by omega), Option.bind_some, if_pos (by rw [bytesL_length]; simp), Option.bind_some, if_pos (by simp [bytesL_length]; omega)]
        rfl
  unfold mantletref07_Build.f buildV
  by_cases h8 : a = 8
  · rw [if_pos h8, hj, if_pos (show a = 8 ∨ a = 0 from .inl h8), if_neg (show ¬ (false = true) by decide)]
  · rw [if_neg h8, hj]
    by_cases h0 : a = 0
    · subst h0
      rw [if_pos (show (0 : Int) = 8 ∨ (0 : Int) = 0 from .inr rfl), show ((0 : Int) != 0) = false from rfl, if_neg (show ¬ (false = true) by decide)]
    · rw [if_pos (bne_iff_ne.2 h0), if_neg (show ¬ (a = 8 ∨ a = 0) from fun h => h.elim h8 h0)]
end Go.Proofs.Ytofjgdbiieanjaa.NetIcmp
namespace Go.Proofs.Ytofjgdbiieanjaa.NetPack
open Go.RowKit Go.Proofs.Ytofjgdbiieanjaa.All Go.Proofs.Ytofjgdbiieanjaa.Ext Go.Proofs.Ytofjgdbiieanjaa.Bits Go.Proofs.YtofjgdbiieanjaaW.PrintWords Go.Proofs.YtofjgdbiieanjaaW.PrintLast Go.Proofs.Ytofjgdbiieanjaa.NetField Go.Proofs.Ytofjgdbiieanjaa.NetSum Go.Proofs.Ytofjgdbiieanjaa.NetRef
/-! What pack's reference comes to. -/
theorem refGood_eq {a s d x y f k : Int} (f0 : 0 ≤ f) (f1 : f < 256) : mantletref09_Good.f a s d x y f k = some (goodB a x y f k) := by
  unfold mantletref09_Good.f goodB
  by_cases h6 : a = 6
  · rw [if_pos h6, if_pos h6]
    by_cases hk : k = 0
    · rw [if_pos hk, hk]
      by_cases h64 : f < 64
      · rw [if_pos h64, NetTcp.refSane_eq f0 f1, Option.bind_some, decide_eq_true (by omega)]; simp
      · rw [if_neg h64, decide_eq_false (by omega)]; simp
    · rw [if_neg hk, beq_eq_false_iff_ne.2 hk]; simp
  · rw [if_neg h6, if_neg h6]
    by_cases hf : f = 0
    · rw [if_pos hf, hf]
      by_cases h17 : a = 17
      · rw [if_pos h17, if_pos h17]; simp
      · rw [if_neg h17, if_neg h17]
        by_cases h1 : a = 1
        · rw [if_pos h1, if_pos h1]
          by_cases hx : x = y
          · rw [if_pos hx, hx]
            by_cases h0 : k = 0
            · rw [if_pos h0, decide_eq_true (.inr h0)]; simp
            · rw [if_neg h0]
              by_cases h8 : k = 8
              · rw [decide_eq_true (.inl h8), h8]; simp
              · rw [decide_eq_false (by omega), beq_eq_false_iff_ne.2 h8]; simp
          · rw [if_neg hx, beq_eq_false_iff_ne.2 hx]; simp
        · rw [if_neg h1, if_neg h1]
    · rw [if_neg hf, beq_eq_false_iff_ne.2 hf]
      by_cases h17 : a = 17
      · rw [if_pos h17]; simp
      · rw [if_neg h17]
        by_cases h1 : a = 1
        · rw [if_pos h1]; simp
        · rw [if_neg h1]
section
variable {a s d x y f k : Int} {b : List Int}
theorem refPack_eq (h : Fields a s d x y f k) (r : Nat) (hb : Byte b) (hl : b.length ≤ 10000) : mantletref09_Build.f (r + 80 + b.length) a s d x y f k b = some (packV a s d x y f k b) := by
  unfold mantletref09_Build.f packV
  rw [refGood_eq h.f0 h.f1, Option.bind_some]
  by_cases hg : goodB a x y f k = true
  rotate_left
  · rw [if_neg hg, if_neg hg]
  have hk := bears_ok h hg hb
  rw [if_pos hg, if_pos hg]
  have hip : ∀ q : List Int × Int, (q.2 = 0 → q.1.length ≤ 1480) → (if q.2 = 0 then ((mantletref04_Build.f (r + 80 + b.length) a s d 0 0 64 0 q.1).bind fun p => some (p.1, p.2)) else some (([] : List Int), q.2)) = some (if q.2 = 0 then NetIp.buildV a s d 64 0 q.1 else ([], q.2)) := by
    intro q hq
    by_cases he : q.2 = 0
    · have hi := NetIp.refBuild_eq (p := a) (s := s) (d := d) (t := 64) (i := 0) 0 0 q.1 (r + b.length) h.a0 h.a1 h.s0 h.s1 h.d0 h.d1 (by omega) (by omega) (by omega) (by omega) (by have := hq he; omega)
      rw [show r + b.length + 80 = r + 80 + b.length by omega] at hi
      rw [if_pos he, if_pos he, hi, Option.bind_some]
    · rw [if_neg he, if_neg he]
  unfold bearsV at hk ⊢
  by_cases h6 : a = 6
  · rw [if_pos h6] at hk ⊢
    rw [NetTcp.refBuild_eq b r h.s0 h.s1 h.d0 h.d1 h.x0 h.x1 h.y0 h.y1 h.f0 h.f1 hb hl, Option.bind_some, if_pos h6]
    exact hip _ fun he => (hk.1 he).2
  · rw [if_neg h6] at hk ⊢
    by_cases h17 : a = 17
    · rw [if_pos h17] at hk ⊢
      rw [NetUdp.refBuild_eq b r h.s0 h.s1 h.d0 h.d1 h.x0 h.x1 h.y0 h.y1 hb hl, Option.bind_some, if_neg h6, if_pos h17]
      exact hip _ fun he => (hk.1 he).2
    · have hi := NetIcmp.refBuild_eq (a := k) (i := x) b (r + 40) h.k0 h.k1 h.x0 h.x1 hb hl
      rw [show r + 40 + 40 + b.length = r + 80 + b.length by omega] at hi
      rw [if_neg h17] at hk ⊢
      rw [hi, Option.bind_some, if_neg h6, if_neg h17]
      exact hip _ fun he => (hk.1 he).2
end
end Go.Proofs.Ytofjgdbiieanjaa.NetPack
