import Derived.Test.YtofjgdbiieanjaaAllx71
import Derived.Test.YtofjgdbiieanjaaNetIpK
import Derived.Test.YtofjgdbiieanjaaNetTcpK
import Derived.Test.YtofjgdbiieanjaaNetUdpK
import Derived.Test.YtofjgdbiieanjaaNetIcmpK
namespace Go.Proofs.Ytofjgdbiieanjaa.NetPack
open Go.RowKit Go.Proofs.Ytofjgdbiieanjaa.All Go.Proofs.Ytofjgdbiieanjaa.Ext Go.Proofs.Ytofjgdbiieanjaa.Bits Go.Proofs.YtofjgdbiieanjaaW.PrintWords Go.Proofs.YtofjgdbiieanjaaW.PrintLast Go.Proofs.Ytofjgdbiieanjaa.NetField Go.Proofs.Ytofjgdbiieanjaa.NetSum Go.Proofs.Ytofjgdbiieanjaa.NetRef
/-! What pack comes to. -/
/-- May a packet be? -/
def goodB (a x y f k : Int) : Bool :=
  if a = 6 then refSane f && decide (f ≤ 63) && (k == 0) else if a = 17 then (f == 0) && (k == 0) else if a = 1 then (f == 0) && (decide (k = 8 ∨ k = 0)) && (x == y) else false
theorem good_eq {a s d x y f k : Int} (f0 : 0 ≤ f) (f1 : f < 256) : pack_Good.f a s d x y f k = some (goodB a x y f k) := by
  unfold pack_Good.f goodB
  by_cases h6 : a = 6
  · rw [if_pos h6, if_pos h6, NetTcp.sane_eq f0 f1, Option.bind_some]
    by_cases hs : refSane f = true
    · rw [if_pos hs, hs]
      by_cases h63 : f ≤ 63
      · rw [if_pos h63, decide_eq_true h63]; simp
      · rw [if_neg h63, decide_eq_false h63]; simp
    · rw [if_neg hs, Bool.eq_false_iff.2 hs]; simp
  · rw [if_neg h6, if_neg h6]
    by_cases h17 : a = 17
    · rw [if_pos h17, if_pos h17]
      by_cases hf : f = 0
      · rw [if_pos hf, hf]; simp
      · rw [if_neg hf, beq_eq_false_iff_ne.2 hf]; simp
    · rw [if_neg h17, if_neg h17]
      by_cases h1 : a = 1
      · rw [if_pos h1, if_pos h1]
        by_cases hf : f = 0
        · rw [if_pos hf, hf]
          by_cases h8 : k = 8
          · rw [if_pos h8, decide_eq_true (.inl h8)]; simp
          · rw [if_neg h8]
            by_cases h0 : k = 0
            · rw [if_pos h0, decide_eq_true (.inr h0)]; simp
            · rw [if_neg h0, decide_eq_false (by omega)]; simp
        · rw [if_neg hf, beq_eq_false_iff_ne.2 hf]; simp
      · rw [if_neg h1, if_neg h1]
/-- What a packet bears. -/
def bearsV (a s d x y f k : Int) (b : List Int) : List Int × Int := if a = 6 then NetTcp.buildV s d x y f b else if a = 17 then NetUdp.buildV s d x y b else NetIcmp.buildV k x b
def packV (a s d x y f k : Int) (b : List Int) : List Int × Int :=
  if goodB a x y f k = true then (if (bearsV a s d x y f k b).2 = 0 then NetIp.buildV a s d 64 0 (bearsV a s d x y f k b).1 else ([], (bearsV a s d x y f k b).2)) else ([], 1)
/-- A packet's fields are of their kinds. -/
structure Fields (a s d x y f k : Int) : Prop where
  a0 : 0 ≤ a
  a1 : a < 256
  s0 : 0 ≤ s
  s1 : s < 4294967296
  d0 : 0 ≤ d
  d1 : d < 4294967296
  x0 : 0 ≤ x
  x1 : x < 65536
  y0 : 0 ≤ y
  y1 : y < 65536
  f0 : 0 ≤ f
  f1 : f < 256
  k0 : 0 ≤ k
  k1 : k < 256
section
variable {a s d x y f k : Int} {b : List Int}
theorem bears_eq (h : Fields a s d x y f k) (r : Nat) (hb : Byte b) (hl : b.length ≤ 10000) : pack_bears.f (r + 80 + b.length) a s d x y f k b = some (bearsV a s d x y f k b) := by
  unfold pack_bears.f bearsV
  by_cases h6 : a = 6
  · rw [if_pos h6, if_pos h6, NetTcp.build_eq b r h.s0 h.s1 h.d0 h.d1 h.x0 h.x1 h.y0 h.y1 h.f0 h.f1 hb hl, Option.bind_some]
  · rw [if_neg h6, if_neg h6]
    by_cases h17 : a = 17
    · rw [if_pos h17, if_pos h17, NetUdp.build_eq b r h.s0 h.s1 h.d0 h.d1 h.x0 h.x1 h.y0 h.y1 hb hl, Option.bind_some]
    · have hi := NetIcmp.build_eq (a := k) (i := x) b (r + 40) h.k0 h.k1 h.x0 h.x1 hb hl
      rw [show r + 40 + 40 + b.length = r + 80 + b.length by omega] at hi
      rw [if_neg h17, if_neg h17, hi, Option.bind_some]
/-- What a packet that may be bears: bytes, not too many. -/
theorem bears_ok (h : Fields a s d x y f k) (hg : goodB a x y f k = true) (hb : Byte b) :
    ((bearsV a s d x y f k b).2 = 0 → Byte (bearsV a s d x y f k b).1 ∧ (bearsV a s d x y f k b).1.length ≤ 1480) ∧ (b.length ≤ 1460 → (bearsV a s d x y f k b).2 = 0) ∧ ((bearsV a s d x y f k b).2 = 0 ∨ (bearsV a s d x y f k b) = ([], 2)) := by
  unfold goodB at hg
  unfold bearsV
  by_cases h6 : a = 6
  · rw [if_pos h6] at hg ⊢
    simp only [Bool.and_eq_true, decide_eq_true_eq] at hg
    unfold NetTcp.buildV
    rw [if_pos ⟨hg.1.1, hg.1.2⟩]
    by_cases hn : b.length > 1460
    · rw [if_pos hn]; exact ⟨fun h => by simp at h, fun h => by omega, .inr rfl⟩
    · rw [if_neg hn]
      refine ⟨fun _ => ⟨NetTcp.tcp_byte b h.x0 h.x1 h.y0 h.y1 h.f0 h.f1 hb, ?_⟩, fun _ => rfl, .inl rfl⟩
      show (NetTcp.buildL s d x y f b).length ≤ 1480
      rw [NetTcp.tcp_length]; omega
  · rw [if_neg h6] at hg ⊢
    by_cases h17 : a = 17
    · rw [if_pos h17]
      unfold NetUdp.buildV
      by_cases hn : b.length > 1472
      · rw [if_pos hn]; exact ⟨fun h => by simp at h, fun h => by omega, .inr rfl⟩
      · rw [if_neg hn]
        refine ⟨fun _ => ⟨NetUdp.udp_byte b h.x0 h.x1 h.y0 h.y1 (by omega) hb, ?_⟩, fun _ => rfl, .inl rfl⟩
        show (NetUdp.buildL s d x y b).length ≤ 1480
        rw [NetUdp.udp_length]; omega
    · rw [if_neg h17] at hg ⊢
      by_cases h1 : a = 1
      · rw [if_pos h1] at hg
        simp only [Bool.and_eq_true, decide_eq_true_eq] at hg
        unfold NetIcmp.buildV
        rw [if_pos hg.1.2]
        by_cases hn : b.length > 1472
        · rw [if_pos hn]; exact ⟨fun h => by simp at h, fun h => by omega, .inr rfl⟩
        · rw [if_neg hn]
          refine ⟨fun _ => ⟨NetIcmp.icmp_byte b h.k0 h.k1 h.x0 h.x1 hb, ?_⟩, fun _ => rfl, .inl rfl⟩
          show (NetIcmp.buildL k x b).length ≤ 1480
          rw [NetIcmp.icmp_length]; omega
      · rw [if_neg h1] at hg; simp at hg
theorem pack_eq (h : Fields a s d x y f k) (r : Nat) (hb : Byte b) (hl : b.length ≤ 10000) : pack_Build.f (r + 80 + b.length) a s d x y f k b = some (packV a s d x y f k b) := by
  unfold pack_Build.f packV
  rw [good_eq h.f0 h.f1, Option.bind_some]
  by_cases hg : goodB a x y f k = true
  · have hk := bears_ok h hg hb
    rw [if_pos hg, if_pos hg, bears_eq h r hb hl, Option.bind_some]
    generalize bearsV a s d x y f k b = q at *
    by_cases he : q.2 = 0
    · have hq := hk.1 he
      have hi := NetIp.build_eq (p := a) (s := s) (d := d) (t := 64) (i := 0) 0 0 q.1 (r + b.length) h.a0 h.a1 h.s0 h.s1 h.d0 h.d1 (by omega) (by omega) (by omega) (by omega) (by omega)
      rw [show r + b.length + 80 = r + 80 + b.length by omega] at hi
      rw [if_pos he, if_pos he, hi, Option.bind_some]
    · rw [if_neg he, if_neg he]
  · rw [if_neg hg, if_neg hg]
end
end Go.Proofs.Ytofjgdbiieanjaa.NetPack
