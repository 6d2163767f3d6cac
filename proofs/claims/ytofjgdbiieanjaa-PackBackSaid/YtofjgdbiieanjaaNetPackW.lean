import Derived.Test.YtofjgdbiieanjaaNetPack
import Derived.Test.YtofjgdbiieanjaaNetWire
namespace Go.Proofs.Ytofjgdbiieanjaa.NetPack
open Go.RowKit Go.Proofs.Ytofjgdbiieanjaa.All Go.Proofs.Ytofjgdbiieanjaa.Ext Go.Proofs.Ytofjgdbiieanjaa.Bits Go.Proofs.YtofjgdbiieanjaaW.PrintWords Go.Proofs.YtofjgdbiieanjaaW.PrintLast Go.Proofs.Ytofjgdbiieanjaa.NetField Go.Proofs.Ytofjgdbiieanjaa.NetSum Go.Proofs.Ytofjgdbiieanjaa.NetRef Go.Proofs.Ytofjgdbiieanjaa.NetWire
/-! What is packed comes back; what came may go out again. -/
theorem tcp_fields (s d : Int) (q : List Int) (qb : Byte q) (ht : (NetTcp.parseV s d q).2.2.2 = 0) : (0 ≤ (NetTcp.parseV s d q).1 ∧ (NetTcp.parseV s d q).1 < 65536) ∧ (0 ≤ (NetTcp.parseV s d q).2.1 ∧ (NetTcp.parseV s d q).2.1 < 65536) ∧ (0 ≤ (NetTcp.parseV s d q).2.2.1 ∧ (NetTcp.parseV s d q).2.2.1 < 64) ∧ refSane (NetTcp.parseV s d q).2.2.1 = true := by
  unfold NetTcp.parseV at ht ⊢
  by_cases c1 : q.length < 20
  · rw [if_pos c1] at ht; simp at ht
  rw [if_neg c1] at *
  by_cases c2 : 4 * (rd q 12 / 16) < 20
  · rw [if_pos c2] at ht; simp at ht
  rw [if_neg c2] at *
  by_cases c3 : 4 * (rd q 12 / 16) > q.length
  · rw [if_pos c3] at ht; simp at ht
  rw [if_neg c3] at *
  by_cases c4 : F (NetTcp.pseudoV 6 s d q.length + WL 0 q) ≠ 65535
  · rw [if_pos c4] at ht; simp at ht
  rw [if_neg c4] at *
  by_cases c5 : refSane (rd q 13 % 64) = true
  rotate_left
  · rw [if_neg c5] at ht; simp at ht
  rw [if_pos c5]
  have t0 := two_range qb (i := 0) (by omega)
  have t2 := two_range qb (i := 2) (by omega)
  refine ⟨⟨t0.1, ?_⟩, ⟨t2.1, ?_⟩, ⟨?_, ?_⟩, c5⟩
  · show two q 0 < 65536; omega
  · show two q 2 < 65536; omega
  · show 0 ≤ rd q 13 % 64; omega
  · show rd q 13 % 64 < 64; omega
theorem udp_fields (s d : Int) (q : List Int) (qb : Byte q) (ht : (NetUdp.parseV s d q).2.2 = 0) : (0 ≤ (NetUdp.parseV s d q).1 ∧ (NetUdp.parseV s d q).1 < 65536) ∧ (0 ≤ (NetUdp.parseV s d q).2.1 ∧ (NetUdp.parseV s d q).2.1 < 65536) := by
  unfold NetUdp.parseV at ht ⊢
  by_cases c1 : q.length < 8
  · rw [if_pos c1] at ht; simp at ht
  rw [if_neg c1] at *
  by_cases c2 : two q 4 < 8
  · rw [if_pos c2] at ht; simp at ht
  rw [if_neg c2] at *
  by_cases c3 : two q 4 > q.length
  · rw [if_pos c3] at ht; simp at ht
  rw [if_neg c3] at *
  by_cases c4 : two q 6 ≠ 0 ∧ F (NetTcp.pseudoV 17 s d (two q 4) + WL 0 (q.take (two q 4).toNat)) ≠ 65535
  · rw [if_pos c4] at ht; simp at ht
  rw [if_neg c4]
  have t0 := two_range qb (i := 0) (by omega)
  have t2 := two_range qb (i := 2) (by omega)
  refine ⟨⟨t0.1, ?_⟩, ⟨t2.1, ?_⟩⟩
  · show two q 0 < 65536; omega
  · show two q 2 < 65536; omega
theorem icmp_fields (q : List Int) (qb : Byte q) (ht : (NetIcmp.parseV q).2.2 = 0) : (0 ≤ (NetIcmp.parseV q).2.1 ∧ (NetIcmp.parseV q).2.1 < 65536) ∧ ((NetIcmp.parseV q).1 = 8 ∨ (NetIcmp.parseV q).1 = 0) := by
  unfold NetIcmp.parseV at ht ⊢
  by_cases c1 : q.length < 8
  · rw [if_pos c1] at ht; simp at ht
  rw [if_neg c1] at *
  by_cases c2 : F (WL 0 q) ≠ 65535
  · rw [if_pos c2] at ht; simp at ht
  rw [if_neg c2] at *
  by_cases c3 : (rd q 0 = 8 ∨ rd q 0 = 0) ∧ rd q 1 = 0
  rotate_left
  · rw [if_neg c3] at ht; simp at ht
  rw [if_pos c3]
  have t4 := two_range qb (i := 4) (by omega)
  refine ⟨⟨t4.1, ?_⟩, c3.1⟩
  show two q 4 < 65536; omega
theorem wireV_tcp {o : NetIp.Out} {x y f : Int} (he : o.2.2.2.2.2.2.2.2 = 0) (h6 : o.1 = 6) (ht : T o = (x, y, f, 0)) : wireV o = (o.1, o.2.1, o.2.2.1, x, y, f, 0, 0) := by
  unfold wireV
  rw [if_pos he, if_pos h6, ht]
  exact if_pos rfl
theorem wireV_udp {o : NetIp.Out} {x y : Int} (he : o.2.2.2.2.2.2.2.2 = 0) (h17 : o.1 = 17) (hu : U o = (x, y, 0)) : wireV o = (o.1, o.2.1, o.2.2.1, x, y, 0, 0, 0) := by
  unfold wireV
  rw [if_pos he, if_neg (by omega), if_pos h17, hu]
  exact if_pos rfl
theorem wireV_icmp {o : NetIp.Out} {x k : Int} (he : o.2.2.2.2.2.2.2.2 = 0) (h1 : o.1 = 1) (hi : I o = (k, x, 0)) : wireV o = (o.1, o.2.1, o.2.2.1, x, x, 0, k, 0) := by
  unfold wireV
  rw [if_pos he, if_neg (by omega), if_neg (by omega), if_pos h1, hi]
  exact if_pos rfl
section
variable {a s d x y f k : Int} {b : List Int}
/-- A packet that is built: its bytes, and what they say. -/
theorem packed (h : Fields a s d x y f k) (hb : Byte b) (hz : (packV a s d x y f k b).2 = 0) :
    Byte (packV a s d x y f k b).1 ∧ (packV a s d x y f k b).1.length ≤ 1500 ∧ wireV (NetIp.parseV (packV a s d x y f k b).1) = (a, s, d, x, y, f, k, 0) := by
  unfold packV at *
  by_cases hg : goodB a x y f k = true
  rotate_left
  · rw [if_neg hg] at hz; simp at hz
  rw [if_pos hg] at *
  by_cases he : (bearsV a s d x y f k b).2 = 0
  rotate_left
  · rw [if_neg he] at hz; exact absurd hz he
  rw [if_pos he] at *
  obtain ⟨qb, ql⟩ := (bears_ok h hg hb).1 he
  have hq : (bearsV a s d x y f k b).1 = (if a = 6 then NetTcp.buildL s d x y f b else if a = 17 then NetUdp.buildL s d x y b else NetIcmp.buildL k x b) ∧ (a = 6 ∨ a = 17 ∨ a = 1) := by
    unfold bearsV at *
    unfold goodB at hg
    by_cases h6 : a = 6
    · rw [if_pos h6] at *
      unfold NetTcp.buildV at *
      simp only [Bool.and_eq_true, decide_eq_true_eq] at hg
      rw [if_pos ⟨hg.1.1, hg.1.2⟩] at *
      by_cases hn : b.length > 1460
      · rw [if_pos hn] at he; simp at he
      · rw [if_neg hn, if_pos h6]; exact ⟨rfl, .inl h6⟩
    · rw [if_neg h6] at *
      by_cases h17 : a = 17
      · rw [if_pos h17] at *
        unfold NetUdp.buildV at *
        by_cases hn : b.length > 1472
        · rw [if_pos hn] at he; simp at he
        · rw [if_neg hn, if_neg h6, if_pos h17]; exact ⟨rfl, .inr (.inl h17)⟩
      · rw [if_neg h17] at *
        by_cases h1 : a = 1
        · rw [if_pos h1] at hg
          simp only [Bool.and_eq_true, decide_eq_true_eq] at hg
          unfold NetIcmp.buildV at *
          rw [if_pos hg.1.2] at *
          by_cases hn : b.length > 1472
          · rw [if_pos hn] at he; simp at he
          · rw [if_neg hn, if_neg h6, if_neg h17]; exact ⟨rfl, .inr (.inr h1)⟩
        · rw [if_neg h1] at hg; simp at hg
  obtain ⟨hq, ha⟩ := hq
  generalize (bearsV a s d x y f k b).1 = q at *
  have hbl : b.length ≤ 1472 ∧ (a = 6 → b.length ≤ 1460) := by
    rw [hq] at ql
    by_cases h6 : a = 6
    · rw [if_pos h6, NetTcp.tcp_length] at ql; exact ⟨by omega, fun _ => by omega⟩
    · rw [if_neg h6] at ql
      by_cases h17 : a = 17
      · rw [if_pos h17, NetUdp.udp_length] at ql; exact ⟨by omega, fun h => absurd h h6⟩
      · rw [if_neg h17, NetIcmp.icmp_length] at ql; exact ⟨by omega, fun h => absurd h h6⟩
  have hp := NetIp.ip_parsed (p := a) (s := s) (d := d) (t := 64) (i := 0) (b := q) [] h.a0 h.a1 h.s0 h.s1 h.d0 h.d1 (by omega) (by omega) (by omega) (by omega) ql (by rw [List.length_nil]; omega)
  rw [List.append_nil] at hp
  unfold NetIp.buildV
  rw [if_neg (show ¬ q.length > 1480 by omega)]
  refine ⟨NetIp.ip_byte h.a0 h.a1 h.s0 h.s1 h.d0 h.d1 (by omega) (by omega) (by omega) (by omega) ql qb, ?_, ?_⟩
  · show (NetIp.buildL a s d 64 0 q).length ≤ 1500
    rw [NetIp.ip_length]; omega
  · show wireV (NetIp.parseV (NetIp.buildL a s d 64 0 q)) = _
    rw [hp]
    unfold goodB at hg
    by_cases h6 : a = 6
    · rw [if_pos h6] at hg hq
      simp only [Bool.and_eq_true, decide_eq_true_eq, beq_iff_eq] at hg
      have ht := NetTcp.tcp_parsed (s := s) (d := d) b h.x0 h.x1 h.y0 h.y1 h.f0 h.f1 hb ⟨hg.1.1, hg.1.2⟩
      rw [← hq] at ht
      rw [hg.2]
      exact wireV_tcp (o := (a, s, d, 20, 20 + (q.length : Int), 64, 0, q, 0)) rfl h6 ht
    · rw [if_neg h6] at hg hq
      by_cases h17 : a = 17
      · rw [if_pos h17] at hg hq
        simp only [Bool.and_eq_true, beq_iff_eq] at hg
        have hu := NetUdp.udp_parsed (s := s) (d := d) b [] h.x0 h.x1 h.y0 h.y1 hbl.1 hb
        rw [List.append_nil, ← hq] at hu
        rw [hg.1, hg.2]
        exact wireV_udp (o := (a, s, d, 20, 20 + (q.length : Int), 64, 0, q, 0)) rfl h17 hu
      · rw [if_neg h17] at hg hq
        have h1 : a = 1 := ha.elim (fun h => absurd h h6) (fun h => h.elim (fun h => absurd h h17) id)
        rw [if_pos h1] at hg
        simp only [Bool.and_eq_true, decide_eq_true_eq, beq_iff_eq] at hg
        have hi := NetIcmp.icmp_parsed b h.k0 h.k1 h.x0 h.x1 hb hg.1.2
        rw [← hq] at hi
        rw [hg.1.1, ← hg.2]
        exact wireV_icmp (o := (a, s, d, 20, 20 + (q.length : Int), 64, 0, q, 0)) rfl h1 hi
/-- What a packet that came says is of the kinds, and may be. -/
theorem came (l : List Int) (hb : Byte l) (hz : (wireV (NetIp.parseV l)).2.2.2.2.2.2.2 = 0) :
    Fields (wireV (NetIp.parseV l)).1 (wireV (NetIp.parseV l)).2.1 (wireV (NetIp.parseV l)).2.2.1 (wireV (NetIp.parseV l)).2.2.2.1 (wireV (NetIp.parseV l)).2.2.2.2.1 (wireV (NetIp.parseV l)).2.2.2.2.2.1 (wireV (NetIp.parseV l)).2.2.2.2.2.2.1 ∧
    goodB (wireV (NetIp.parseV l)).1 (wireV (NetIp.parseV l)).2.2.2.1 (wireV (NetIp.parseV l)).2.2.2.2.1 (wireV (NetIp.parseV l)).2.2.2.2.2.1 (wireV (NetIp.parseV l)).2.2.2.2.2.2.1 = true := by
  obtain ⟨⟨⟨s0, s1⟩, ⟨d0, d1⟩⟩, qb, ql, qn⟩ := ip_range l hb
  generalize NetIp.parseV l = o at *
  unfold wireV at *
  by_cases he : o.2.2.2.2.2.2.2.2 = 0
  rotate_left
  · rw [if_neg he] at hz; exact absurd hz he
  rw [if_pos he] at *
  by_cases h6 : o.1 = 6
  · rw [if_pos h6] at *
    by_cases ht : (T o).2.2.2 = 0
    rotate_left
    · rw [if_neg ht] at hz; exact absurd hz ht
    rw [if_pos ht] at *
    have hr : (0 ≤ (T o).1 ∧ (T o).1 < 65536) ∧ (0 ≤ (T o).2.1 ∧ (T o).2.1 < 65536) ∧ (0 ≤ (T o).2.2.1 ∧ (T o).2.2.1 < 64) ∧ refSane (T o).2.2.1 = true := tcp_fields _ _ _ qb ht
    obtain ⟨⟨x0, x1⟩, ⟨y0, y1⟩, ⟨f0, f1⟩, hs⟩ := hr
    refine ⟨⟨?_, ?_, s0, s1, d0, d1, x0, x1, y0, y1, f0, ?_, Int.le_refl 0, ?_⟩, ?_⟩
    · show 0 ≤ o.1; omega
    · show o.1 < 256; omega
    · show (T o).2.2.1 < 256; omega
    · show (0 : Int) < 256; omega
    · show goodB o.1 (T o).1 (T o).2.1 (T o).2.2.1 0 = true
      unfold goodB
      rw [if_pos h6, hs, decide_eq_true (by omega)]
      rfl
  rw [if_neg h6] at *
  by_cases h17 : o.1 = 17
  · rw [if_pos h17] at *
    by_cases ht : (U o).2.2 = 0
    rotate_left
    · rw [if_neg ht] at hz; exact absurd hz ht
    rw [if_pos ht] at *
    have hr : (0 ≤ (U o).1 ∧ (U o).1 < 65536) ∧ (0 ≤ (U o).2.1 ∧ (U o).2.1 < 65536) := udp_fields _ _ _ qb ht
    obtain ⟨⟨x0, x1⟩, ⟨y0, y1⟩⟩ := hr
    refine ⟨⟨?_, ?_, s0, s1, d0, d1, x0, x1, y0, y1, Int.le_refl 0, ?_, Int.le_refl 0, ?_⟩, ?_⟩
    · show 0 ≤ o.1; omega
    · show o.1 < 256; omega
    · show (0 : Int) < 256; omega
    · show (0 : Int) < 256; omega
    · show goodB o.1 (U o).1 (U o).2.1 0 0 = true
      unfold goodB
      rw [if_neg h6, if_pos h17]
      rfl
  rw [if_neg h17] at *
  by_cases h1 : o.1 = 1
  · rw [if_pos h1] at *
    by_cases ht : (I o).2.2 = 0
    rotate_left
    · rw [if_neg ht] at hz; exact absurd hz ht
    rw [if_pos ht] at *
    have hr : (0 ≤ (I o).2.1 ∧ (I o).2.1 < 65536) ∧ ((I o).1 = 8 ∨ (I o).1 = 0) := icmp_fields _ qb ht
    obtain ⟨⟨x0, x1⟩, hk⟩ := hr
    refine ⟨⟨?_, ?_, s0, s1, d0, d1, x0, x1, x0, x1, Int.le_refl 0, ?_, ?_, ?_⟩, ?_⟩
    · show 0 ≤ o.1; omega
    · show o.1 < 256; omega
    · show (0 : Int) < 256; omega
    · show 0 ≤ (I o).1; omega
    · show (I o).1 < 256; omega
    · show goodB o.1 (I o).2.1 (I o).2.1 0 (I o).1 = true
      unfold goodB
      rw [if_neg h6, if_neg h17, if_pos h1, decide_eq_true hk]
      simp
  · rw [if_neg h1] at hz
    exact absurd hz (show ¬ ((9 : Int) = 0) by omega)
end
end Go.Proofs.Ytofjgdbiieanjaa.NetPack
