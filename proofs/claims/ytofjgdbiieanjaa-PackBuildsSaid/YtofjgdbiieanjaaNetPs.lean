import Derived.Test.YtofjgdbiieanjaaAllx28
import Derived.Test.YtofjgdbiieanjaaNetTurn
namespace Go.Proofs.Ytofjgdbiieanjaa.NetTcp
open Go.RowKit Go.Proofs.Ytofjgdbiieanjaa.All Go.Proofs.Ytofjgdbiieanjaa.Ext Go.Proofs.Ytofjgdbiieanjaa.Bits Go.Proofs.YtofjgdbiieanjaaW.PrintWords Go.Proofs.YtofjgdbiieanjaaW.PrintLast Go.Proofs.Ytofjgdbiieanjaa.NetField Go.Proofs.Ytofjgdbiieanjaa.NetSum Go.Proofs.Ytofjgdbiieanjaa.NetRef
/-! The sums of what a checksum covers beside the bytes. -/
/-- What a checksum covers beside the bytes. -/
def pseudoL (p s d n : Int) : List Int := bytesL s.toNat 4 ++ (bytesL d.toNat 4 ++ ([0, p] ++ bytesL (IntKind.u64.wrap n).toNat 2))
theorem pseudoL_length (p s d n : Int) : (pseudoL p s d n).length = 12 := by simp [pseudoL, bytesL_length]
theorem pseudoL_byte {p : Int} (s d n : Int) (p0 : 0 ≤ p) (p1 : p < 256) : Byte (pseudoL p s d n) :=
  byte_app (byte_bytesL _ _) (byte_app (byte_bytesL _ _) (byte_app (byte_cons (by omega) (byte_cons ⟨p0, p1⟩ byte_nil)) (byte_bytesL _ _)))
def pseudoV (p s d n : Int) : Int := F (WL 0 (pseudoL p s d n))
theorem pseudoV_range (p s d n : Int) : 0 ≤ pseudoV p s d n ∧ pseudoV p s d n ≤ 65535 := F_range _
theorem cut_of {v : Int} (s k : Nat) (h0 : 0 ≤ v) (h1 : 1 ≤ s) (h8 : s ≤ 8) : field_Cut.f (k + 11) v (s : Int) = some (bytesL v.toNat s) := by
  have h := cut_yes v.toNat s k h1 h8
  rwa [show ((v.toNat : Nat) : Int) = v by omega] at h
theorem pseudo_eq {p s d n : Int} (k : Nat) (p0 : 0 ≤ p) (p1 : p < 256) (s0 : 0 ≤ s) (s1 : s < 4294967296) (d0 : 0 ≤ d) (d1 : d < 4294967296) :
    tcp_Pseudo.f (k + 40) p s d n = some (pseudoV p s d n) := by
  have hw : 0 ≤ IntKind.u64.wrap n := by rw [wrap_u64]; omega
  have c1 := cut_of (v := s) 4 (k + 29) s0 (by omega) (by omega)
  have c2 := cut_of (v := d) 4 (k + 29) d0 (by omega) (by omega)
  have c3 := cut_of (v := IntKind.u64.wrap n) 2 (k + 29) hw (by omega) (by omega)
  have hc := concat_eq [bytesL s.toNat 4, bytesL d.toNat 4, [0, p], bytesL (IntKind.u64.wrap n).toNat 2] (k + 30) (by simp) (by simp [bytesL_length])
  simp only [List.length_cons, List.length_nil, List.flatten_cons, List.flatten_nil, List.append_nil] at hc
  have ha := add_eq (pseudoL p s d n) (s := 0) (k + 23) (pseudoL_byte s d n p0 p1) (by rw [pseudoL_length]; omega) (by omega) (by omega)
  rw [pseudoL_length, Int.zero_add] at ha
  rw [show k + 29 + 11 = k + 40 by omega] at c1 c2 c3
  rw [show k + 30 + 2 + (0 + 1 + 1 + 1 + 1) + (0 + 1 + 1 + 1 + 1) = k + 40 by omega] at hc
  rw [show k + 23 + 5 + 12 = k + 40 by omega] at ha
  unfold tcp_Pseudo.f
  rw [wraps_u64 s s0 (by omega), wraps_u64 d d0 (by omega)]
  rw [show ((4 : Nat) : Int) = 4 from rfl] at c1 c2
  rw [show ((2 : Nat) : Int) = 2 from rfl] at c3
  rw [c1, Option.bind_some, c2, Option.bind_some, c3, Option.bind_some, hc, Option.bind_some]
  show (sum_Add.f (k + 40) 0 (pseudoL p s d n)).bind _ = _
  rw [ha, Option.bind_some]; rfl
end Go.Proofs.Ytofjgdbiieanjaa.NetTcp
