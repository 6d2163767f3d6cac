-- Made by a program of this workplace (wip/pr.sh) out of Lean's print of the translation; Lean checks it.
import Derived.Test.YtofjgdbiieanjaaAllx0
import Derived.Test.YtofjgdbiieanjaaAllx7
import Derived.Test.YtofjgdbiieanjaaAllx8
import Derived.Test.YtofjgdbiieanjaaAllx16
import Derived.Test.YtofjgdbiieanjaaAllx17
import Derived.Test.YtofjgdbiieanjaaStrongicmpBuild
import Derived.Test.YtofjgdbiieanjaaOwn
namespace Go.Proofs.Ytofjgdbiieanjaa.All
open Go.Proofs.Ytofjgdbiieanjaa.Ext
open Go.RowKit Go.Proofs.YtofjgdbiieanjaaW.PrintWords Go.Proofs.YtofjgdbiieanjaaW.PrintLast Go.Proofs.YtofjgdbiieanjaaW.PrintMore
attribute [local go_sem] max2_int min2_int max_two min_two max_three min_three max_four min_four   -- for this text's walks alone
set_option linter.unusedVariables false
set_option linter.unusedSimpArgs false

/-! ### mantletlaw07_IcmpBack: function 5 -/
mutual
def mantletlaw07_IcmpBack.j0 : Nat → Int → Int → List Int → Int → Option (Bool)
  | 0, _, _, _, _ => none
  | k + 1, x1, x3, x9, x10 => (icmp_Build.f k x10 x1 x9).bind fun bt177 => (if bt177.2 = 0 then ((icmp_Parse.f k bt177.1).bind fun bt182 => (if bt182.1 = x10 then (if bt182.2.1 = x1 then (if bt182.2.2 = 0 then (mantletlaw07_IcmpBack.j1 k x3 bt177.1 ((bt177.1.length : Int) != (wrap64 (8 + (x9.length : Int))))) else (mantletlaw07_IcmpBack.j1 k x3 bt177.1 true)) else (mantletlaw07_IcmpBack.j1 k x3 bt177.1 true)) else (mantletlaw07_IcmpBack.j1 k x3 bt177.1 true))) else ((mantletlaw07_awake.f k).bind fun t181 => (if t181 = true then (if (x9.length : Int) > 1472 then (some ((bt177.1.length : Int) == 0)) else (some false)) else (some false))))
def mantletlaw07_IcmpBack.j1 : Nat → Int → List Int → Bool → Option (Bool)
  | 0, _, _, _ => none
  | k + 1, x3, x11, x64 => if x64 = true then (some false) else (if (x11.length : Int) = 0 then (none) else (if 0 ≤ (Int.tmod (wrap64 (Int.tdiv (wrap64 (x3)) 8)) (x11.length : Int)) then (if (Int.tmod (wrap64 (Int.tdiv (wrap64 (x3)) 8)) (x11.length : Int)) < (x11.length : Int) then (if 0 ≤ (Int.tmod x3 8) then ((icmp_Parse.f k (x11.set ((Int.tmod (wrap64 (Int.tdiv (wrap64 (x3)) 8)) (x11.length : Int)) : Int).toNat (Go.bits .xor .u8 (rd x11 (Int.tmod (wrap64 (Int.tdiv (wrap64 (x3)) 8)) (x11.length : Int))) (shl .u8 1 (Int.tmod x3 8))))).bind fun bt187 => ((mantletlaw07_awake.f k).bind fun t190 => (if t190 = true then (if bt187.1 = 0 then (if bt187.2.1 = 0 then (some (bt187.2.2 == 7)) else (some false)) else (some false)) else (some false)))) else (none)) else (none)) else (none)))
end
def mantletlaw07_IcmpBack.f (k : Nat) (a0 : Bool) (a1 : Int) (l2 : List Int) (a3 : Int) : Option (Bool) := (mantletlaw07_short.f l2).bind fun t174 => (if a0 = true then (mantletlaw07_IcmpBack.j0 k a1 a3 t174 0) else (mantletlaw07_IcmpBack.j0 k a1 a3 t174 8))
theorem mantletlaw07_IcmpBack.mono_l : ∀ k, (∀ y0 y1 y2 y3, LeO (mantletlaw07_IcmpBack.j0 k y0 y1 y2 y3) (mantletlaw07_IcmpBack.j0 (k + 1) y0 y1 y2 y3)) ∧ (∀ y0 y1 y2, LeO (mantletlaw07_IcmpBack.j1 k y0 y1 y2) (mantletlaw07_IcmpBack.j1 (k + 1) y0 y1 y2))
  | 0 => ⟨fun _ _ _ _ r h => by simp [mantletlaw07_IcmpBack.j0] at h, fun _ _ _ r h => by simp [mantletlaw07_IcmpBack.j1] at h⟩
  | k + 1 => by
    obtain ⟨ih0, ih1⟩ := mantletlaw07_IcmpBack.mono_l k
    refine ⟨?_, ?_⟩
    · intro y0 y1 y2 y3
      unfold mantletlaw07_IcmpBack.j0
      repeat' first
      | (with_reducible exact ih0 _ _ _ _)
      | (with_reducible exact ih1 _ _ _)
      | (with_reducible exact icmp_Build.mono _ _ _ _)
      | (with_reducible exact icmp_Parse.mono _ _)
      | (with_reducible exact mantletlaw07_awake.mono _)
      | (with_reducible exact LeO.refl _)
      | (with_reducible exact LeO.none _)
      | (with_reducible refine LeO.ite ?_ ?_)
      | (with_reducible refine LeO.bind ?_ (fun _ => ?_))
      | exact ih0 _ _ _ _
      | exact ih1 _ _ _
      | exact icmp_Build.mono _ _ _ _
      | exact icmp_Parse.mono _ _
      | exact mantletlaw07_awake.mono _
      | exact LeO.none _
      | refine LeO.ite ?_ ?_
      | refine LeO.bind ?_ (fun _ => ?_)
    · intro y0 y1 y2
      unfold mantletlaw07_IcmpBack.j1
      repeat' first
      | (with_reducible exact ih0 _ _ _ _)
      | (with_reducible exact ih1 _ _ _)
      | (with_reducible exact icmp_Build.mono _ _ _ _)
      | (with_reducible exact icmp_Parse.mono _ _)
      | (with_reducible exact mantletlaw07_awake.mono _)
      | (with_reducible exact LeO.refl _)
      | (with_reducible exact LeO.none _)
      | (with_reducible refine LeO.ite ?_ ?_)
      | (with_reducible refine LeO.bind ?_ (fun _ => ?_))
      | exact ih0 _ _ _ _
      | exact ih1 _ _ _
      | exact icmp_Build.mono _ _ _ _
      | exact icmp_Parse.mono _ _
      | exact mantletlaw07_awake.mono _
      | exact LeO.none _
      | refine LeO.ite ?_ ?_
      | refine LeO.bind ?_ (fun _ => ?_)
theorem mantletlaw07_IcmpBack.mono : ∀ a0 a1 a2 a3 k, LeO (mantletlaw07_IcmpBack.f k a0 a1 a2 a3) (mantletlaw07_IcmpBack.f (k + 1) a0 a1 a2 a3) := by
  intro a0 a1 a2 a3 k
  obtain ⟨ih0, ih1⟩ := mantletlaw07_IcmpBack.mono_l k
  unfold mantletlaw07_IcmpBack.f
  repeat' first
      | (with_reducible exact ih0 _ _ _ _)
      | (with_reducible exact ih1 _ _ _)
      | (with_reducible exact icmp_Build.mono _ _ _ _)
      | (with_reducible exact icmp_Parse.mono _ _)
      | (with_reducible exact mantletlaw07_awake.mono _)
      | (with_reducible exact LeO.refl _)
      | (with_reducible exact LeO.none _)
      | (with_reducible refine LeO.ite ?_ ?_)
      | (with_reducible refine LeO.bind ?_ (fun _ => ?_))
      | exact ih0 _ _ _ _
      | exact ih1 _ _ _
      | exact icmp_Build.mono _ _ _ _
      | exact icmp_Parse.mono _ _
      | exact mantletlaw07_awake.mono _
      | exact LeO.none _
      | refine LeO.ite ?_ ?_
      | refine LeO.bind ?_ (fun _ => ?_)
set_option maxHeartbeats 8000000 in
set_option maxRecDepth 100000 in
theorem mantletlaw07_IcmpBack.calls (k : Nat) (a0 : Bool) (a1 : Int) (A2 : Option Addr) (c2 : Nat) (l2 : List Int) (a3 : Int) (r : Bool) (w : World) (hr2 : Kd.C (Kd.int .u8) w A2 l2.length l2) (hc2 : l2.length ≤ c2) (h : mantletlaw07_IcmpBack.f k a0 a1 l2 a3 = some r) :
    Calls Try.prog 5 #[.bool a0, .int .u16 a1, .slice A2 l2.length c2, .int .u16 a3] w fun e w' => e = .returned (.bool r) ∧ Below w.heap.size w w' := by
  have HR2 := Aside0.mk hr2
  have HC2 := Aside0.mk hc2
  clear hr2 hc2
  have HB := Aside0.mk (Below.refl w.heap.size w)
  have H : ((mantletlaw07_short.f l2).bind fun t174 => (if a0 = true then (mantletlaw07_IcmpBack.j0 k a1 a3 t174 0) else (mantletlaw07_IcmpBack.j0 k a1 a3 t174 8))) = some r := h
  clear h
  replace H := Option.bind_eq_some_iff.mp H
  obtain ⟨t174, A50, H⟩ := H
  replace H : (if a0 = true then (mantletlaw07_IcmpBack.j0 k a1 a3 t174 0) else (mantletlaw07_IcmpBack.j0 k a1 a3 t174 8)) = some r := H
  have A5 := Aside0.mk A50
  clear A50
  have HC6 := Aside0.mk H
  clear H
  go_enter Try.func5, Try.ntmps5
  go_upto_if 18 with (first | ((with_reducible refine gate_callee (f := 25) rfl ?_); refine goesL_ (some 17) rfl rfl Try.func25 (by kernel_rfl) rfl #[.slice A2 l2.length c2] rfl (by (try simp only [List.map_toArray, List.map_cons, List.map_nil]); first | done | rfl | (simp only [List.length_drop, List.length_take]; rfl)) ?_; (with_reducible refine (mantletlaw07_short.calls (fun k_ => k_ < w.heap.size) _ _ l2 t174 _ ?side1 A5.out).mono ?_); (case side1 => exact Kd.V_mk HC2.out (Kd.F_below (Kd.C_F (Kd.heap_int .u8) HR2.out) (by repeat (first | (with_reducible first | exact HB.out | apply below_alloc | apply pw_below_drewN | apply below_drew1) | exact HB.out)))); rintro e w7 ⟨v175, rfl, ho0, hb⟩; refine ⟨_, rfl, ?_⟩; have n0_ := Aside0.mk (Kd.V_lower (Kd.V_mono (ok' := fun k_ => True) ho0 (fun k_ hk_ => trivial)) (below_size (by repeat (first | (with_reducible first | exact HB.out | apply below_alloc | apply pw_below_drewN | apply below_drew1) | exact HB.out)))); have n1_ := Aside0.mk (below_step (by repeat (first | (with_reducible first | exact HB.out | apply below_alloc | apply pw_below_drewN | apply below_drew1) | exact HB.out)) hb); clear HB; have HO176 := n0_; have HB := n1_; clear n0_ n1_; (try clear hb); (try clear hb2); (try clear hk); (try clear hi); (try clear ho0)))
  (try simp only [Act.put, List.setIfInBounds_toArray, List.set_cons_zero, List.set_cons_succ])
  go_cut [10] (fun v10 wc => ∃ (kq : Nat) (x10_5 : Int), v10 = .int .u8 x10_5 ∧ Aside0 (mantletlaw07_IcmpBack.j0 kq a1 a3 t174 x10_5 = some r) ∧ Aside0 (kq ≤ k) ∧ Aside0 (Kd.V (Kd.int .u8) 5 wc w.heap.size (fun _ => True) v175 t174) ∧ Aside0 (Below w.heap.size w wc))
  case first =>
    have H := HC6.out
    clear HC6
    by_cases c8 : a0 = true
    · subst c8
      have H1 : (mantletlaw07_IcmpBack.j0 k a1 a3 t174 0) = some r := by rw [if_pos rfl] at H; exact H
      clear H
      have H := H1
      clear H1
      have H' := Aside0.mk H
      clear H
      go_wp2
      go_meet
      case rel => exact ⟨_, (0), (by first | rfl | (simp; done) | (simp [*]; done)), H', ⟨by first | omega | exact Nat.le_refl _⟩, ⟨by (with_reducible repeat (first | apply Kd.V_alloc | apply Kd.V_drewN | apply Kd.V_drew)); exact HO176.out⟩, ⟨by repeat (first | (with_reducible first | exact HB.out | apply below_alloc | apply pw_below_drewN | apply below_drew1) | exact HB.out)⟩⟩
    · replace c8 := Bool.eq_false_iff.mpr c8
      subst c8
      have H1 : (mantletlaw07_IcmpBack.j0 k a1 a3 t174 8) = some r := by rw [if_neg (show ¬ (false = true) by decide)] at H; exact H
      clear H
      have H := H1
      clear H1
      have H' := Aside0.mk H
      clear H
      go_wp2
      go_meet
      case rel => exact ⟨_, (8), (by first | rfl | (simp; done) | (simp [*]; done)), H', ⟨by first | omega | exact Nat.le_refl _⟩, ⟨by (with_reducible repeat (first | apply Kd.V_alloc | apply Kd.V_drewN | apply Kd.V_drew)); exact HO176.out⟩, ⟨by repeat (first | (with_reducible first | exact HB.out | apply below_alloc | apply pw_below_drewN | apply below_drew1) | exact HB.out)⟩⟩
  case rest =>
    clear HC6
    try clear c2
    try clear p2
    try clear c5
    try clear c8
    obtain ⟨kq, x10_5, rfl, HA, HJ5, HO_9, HB⟩ := hcut
    cases kq with
    | zero => exact absurd HA.out (by simp [mantletlaw07_IcmpBack.j0])
    | succ kj5 =>
      have H := HA.out
      clear HA
      simp only [mantletlaw07_IcmpBack.j0] at H
      replace H := Option.bind_eq_some_iff.mp H
      obtain ⟨⟨t177, t180⟩, A90, H⟩ := H
      replace H : (if t180 = 0 then ((icmp_Parse.f kj5 t177).bind fun bt182 => (if bt182.1 = x10_5 then (if bt182.2.1 = a1 then (if bt182.2.2 = 0 then (mantletlaw07_IcmpBack.j1 kj5 a3 t177 ((t177.length : Int) != (wrap64 (8 + (t174.length : Int))))) else (mantletlaw07_IcmpBack.j1 kj5 a3 t177 true)) else (mantletlaw07_IcmpBack.j1 kj5 a3 t177 true)) else (mantletlaw07_IcmpBack.j1 kj5 a3 t177 true))) else ((mantletlaw07_awake.f kj5).bind fun t181 => (if t181 = true then (if (t174.length : Int) > 1472 then (some ((t177.length : Int) == 0)) else (some false)) else (some false)))) = some r := H
      have A9 := Aside0.mk A90
      clear A90
      by_cases c10 : t180 = 0
      · rw [if_pos c10] at H
        have c10b0 : (t180 == 0) = true := beq_iff_eq.mpr c10
        have c10b1 : (t180 != 0) = false := bne_eq_false_iff_eq.mpr c10
        clear c10
        replace H := Option.bind_eq_some_iff.mp H
        obtain ⟨⟨t182, t183, t184⟩, A110, H⟩ := H
        replace H : (if t182 = x10_5 then (if t183 = a1 then (if t184 = 0 then (mantletlaw07_IcmpBack.j1 kj5 a3 t177 ((t177.length : Int) != (wrap64 (8 + (t174.length : Int))))) else (mantletlaw07_IcmpBack.j1 kj5 a3 t177 true)) else (mantletlaw07_IcmpBack.j1 kj5 a3 t177 true)) else (mantletlaw07_IcmpBack.j1 kj5 a3 t177 true)) = some r := H
        have A11 := Aside0.mk A110
        clear A110
        have HC12 := Aside0.mk H
        clear H
        obtain ⟨Ao13, co13, eo13⟩ := Kd.V_slice HO_9.out
        subst eo13
        go_upto_region 9 with (first | ((with_reducible refine gate_callee (f := 28) rfl ?_); refine goesL_ (some 23) rfl rfl Try.func28 (by kernel_rfl) rfl #[.int .u8 x10_5, .int .u16 a1, .slice Ao13 t174.length co13] rfl (by (try simp only [List.map_toArray, List.map_cons, List.map_nil]); first | done | rfl | (simp only [List.length_drop, List.length_take]; rfl)) ?_; (with_reducible refine (icmp_Build.strong kj5 x10_5 a1 (fun k_ => True) _ _ t174 t177 t180 _ ?side1 A9.out).mono ?_); (case side1 => exact HO_9.out); rintro e w14 ⟨v178, rfl, ho0, hb⟩; refine ⟨_, rfl, ?_⟩; have n0_ := Aside0.mk (Kd.V_elder' (by (with_reducible repeat (first | apply Kd.V_alloc | apply Kd.V_drewN | apply Kd.V_drew)); exact HO_9.out) (Kd.K_base ho0) hb); have n1_ := Aside0.mk (Kd.K_lower (Kd.K_mono (ok' := fun k_ => True) ho0 (fun _ hk_ => trivial)) (below_size (by repeat (first | (with_reducible first | exact HB.out | apply below_alloc | apply pw_below_drewN | apply below_drew1) | exact HB.out)))); have n2_ := Aside0.mk (below_step (by repeat (first | (with_reducible first | exact HB.out | apply below_alloc | apply pw_below_drewN | apply below_drew1) | exact HB.out)) hb); clear HO_9; clear HB; have HO_9 := n0_; have HO179 := n1_; have HB := n2_; clear n0_ n1_ n2_; (try clear hb); (try clear hb2); (try clear hk); (try clear hi); (try clear ho0); obtain ⟨Ao15, co15, eo15⟩ := Kd.K_slice HO179.out; subst eo15) | ((with_reducible refine gate_callee (f := 24) rfl ?_); refine goesL_ (some 41) rfl rfl Try.func24 (by kernel_rfl) rfl #[.slice Ao15 t177.length co15] rfl (by (try simp only [List.map_toArray, List.map_cons, List.map_nil]); first | done | rfl | (simp only [List.length_drop, List.length_take]; rfl)) ?_; (with_reducible refine (icmp_Parse.calls kj5 _ _ t177 t182 t183 t184 _ ?side1 ?side2 A11.out).mono ?_); (case side1 => repeat (first | exact (Kd.K_reads' HO179.out).2.2 | (with_reducible refine Kd.C_alloc ?_ _) | (with_reducible refine Kd.C_drewN ?_ _) | (with_reducible refine Kd.C_drew ?_))); (case side2 => exact (Kd.K_reads' HO179.out).2.1); rintro e w' ⟨rfl, ⟨nd, rfl⟩⟩; refine ⟨_, rfl, ?_⟩))
        (try simp only [Act.put, List.setIfInBounds_toArray, List.set_cons_zero, List.set_cons_succ])
        go_cut [64] (fun v64 wc => ∃ (kq : Nat) (x64_11 : Bool), v64 = .bool x64_11 ∧ Aside0 (mantletlaw07_IcmpBack.j1 kq a3 t177 x64_11 = some r) ∧ Aside0 (kq ≤ kj5) ∧ Aside0 (Kd.K (Kd.int .u8) 5 wc w.heap.size (fun _ => True) (.slice Ao15 t177.length co15) t177) ∧ Aside0 (Below w.heap.size w wc))
        case first =>
          have H := HC12.out
          clear HC12
          by_cases c16 : t182 = x10_5
          · rw [if_pos c16] at H
            have c16b0 : (t182 == x10_5) = true := beq_iff_eq.mpr c16
            have c16b1 : (t182 != x10_5) = false := bne_eq_false_iff_eq.mpr c16
            clear c16
            (first | rw [c16b0] | (simp only [i64_w, i32_w]; rw [c16b0]) | skip)
            by_cases c17 : t183 = a1
            · rw [if_pos c17] at H
              have c17b0 : (t183 == a1) = true := beq_iff_eq.mpr c17
              have c17b1 : (t183 != a1) = false := bne_eq_false_iff_eq.mpr c17
              clear c17
              by_cases c18 : t184 = 0
              · rw [if_pos c18] at H
                have c18b0 : (t184 == 0) = true := beq_iff_eq.mpr c18
                have c18b1 : (t184 != 0) = false := bne_eq_false_iff_eq.mpr c18
                clear c18
                have H' := Aside0.mk H
                clear H
                go_wp2
                go_meet
                case rel => exact ⟨_, (((t177.length : Int) != (wrap64 (8 + (t174.length : Int))))), (by first | rfl | (simp; done) | (simp [*]; done)), H', ⟨by have := HJ5.out; first | omega | exact Nat.le_refl _⟩, ⟨by (with_reducible repeat (first | apply Kd.K_alloc | apply Kd.K_drewN | apply Kd.K_drew)); exact HO179.out⟩, ⟨by repeat (first | (with_reducible first | exact HB.out | apply below_alloc | apply pw_below_drewN | apply below_drew1) | exact HB.out)⟩⟩
              · rw [if_neg c18] at H
                have c18b0 : (t184 == 0) = false := beq_eq_false_iff_ne.mpr c18
                have c18b1 : (t184 != 0) = true := bne_iff_ne.mpr c18
                have H' := Aside0.mk H
                clear H
                go_wp2
                go_meet
                case rel => exact ⟨_, (true), (by first | rfl | (simp; done) | (simp [*]; done)), H', ⟨by have := HJ5.out; first | omega | exact Nat.le_refl _⟩, ⟨by (with_reducible repeat (first | apply Kd.K_alloc | apply Kd.K_drewN | apply Kd.K_drew)); exact HO179.out⟩, ⟨by repeat (first | (with_reducible first | exact HB.out | apply below_alloc | apply pw_below_drewN | apply below_drew1) | exact HB.out)⟩⟩
            · rw [if_neg c17] at H
              have c17b0 : (t183 == a1) = false := beq_eq_false_iff_ne.mpr c17
              have c17b1 : (t183 != a1) = true := bne_iff_ne.mpr c17
              have H' := Aside0.mk H
              clear H
              go_wp2
              go_meet
              case rel => exact ⟨_, (true), (by first | rfl | (simp; done) | (simp [*]; done)), H', ⟨by have := HJ5.out; first | omega | exact Nat.le_refl _⟩, ⟨by (with_reducible repeat (first | apply Kd.K_alloc | apply Kd.K_drewN | apply Kd.K_drew)); exact HO179.out⟩, ⟨by repeat (first | (with_reducible first | exact HB.out | apply below_alloc | apply pw_below_drewN | apply below_drew1) | exact HB.out)⟩⟩
          · rw [if_neg c16] at H
            have c16b0 : (t182 == x10_5) = false := beq_eq_false_iff_ne.mpr c16
            have c16b1 : (t182 != x10_5) = true := bne_iff_ne.mpr c16
            (first | rw [c16b0] | (simp only [i64_w, i32_w]; rw [c16b0]) | skip)
            have H' := Aside0.mk H
            clear H
            go_wp2
            go_meet
            case rel => exact ⟨_, (true), (by first | rfl | (simp; done) | (simp [*]; done)), H', ⟨by have := HJ5.out; first | omega | exact Nat.le_refl _⟩, ⟨by (with_reducible repeat (first | apply Kd.K_alloc | apply Kd.K_drewN | apply Kd.K_drew)); exact HO179.out⟩, ⟨by repeat (first | (with_reducible first | exact HB.out | apply below_alloc | apply pw_below_drewN | apply below_drew1) | exact HB.out)⟩⟩
        case rest =>
          clear HC12
          try clear c1
          try clear c2
          try clear p2
          try clear c5
          try clear p6
          try clear c8
          try clear c10
          try clear c10b0
          try clear c10b1
          try clear c16
          try clear c16b0
          try clear c16b1
          try clear c17
          try clear c17b0
          try clear c17b1
          try clear c18
          try clear c18b0
          try clear c18b1
          try clear p2
          obtain ⟨kq, x64_11, rfl, HA, HJ11, HO_11, HB⟩ := hcut
          cases kq with
          | zero => exact absurd HA.out (by simp [mantletlaw07_IcmpBack.j1])
          | succ kj11 =>
            have H := HA.out
            clear HA
            simp only [mantletlaw07_IcmpBack.j1] at H
            by_cases c19 : x64_11 = true
            · subst c19
              have H1 : (some false) = some r := by rw [if_pos rfl] at H; exact H
              clear H
              have H := H1
              clear H1
              obtain rfl := Option.some.inj H
              go_wp2
              go_ret
              exact ⟨by first | rfl | (simp [errW_none, errW_some] <;> rfl) | (simp [*, errW_none, errW_some] <;> rfl), by repeat (first | (with_reducible first | exact HB.out | apply below_alloc | apply pw_below_drewN | apply below_drew1) | exact HB.out)⟩
            · replace c19 := Bool.eq_false_iff.mpr c19
              subst c19
              have H1 : (if (t177.length : Int) = 0 then (none) else (if 0 ≤ (Int.tmod (wrap64 (Int.tdiv (wrap64 (a3)) 8)) (t177.length : Int)) then (if (Int.tmod (wrap64 (Int.tdiv (wrap64 (a3)) 8)) (t177.length : Int)) < (t177.length : Int) then (if 0 ≤ (Int.tmod a3 8) then ((icmp_Parse.f kj11 (t177.set ((Int.tmod (wrap64 (Int.tdiv (wrap64 (a3)) 8)) (t177.length : Int)) : Int).toNat (Go.bits .xor .u8 (rd t177 (Int.tmod (wrap64 (Int.tdiv (wrap64 (a3)) 8)) (t177.length : Int))) (shl .u8 1 (Int.tmod a3 8))))).bind fun bt187 => ((mantletlaw07_awake.f kj11).bind fun t190 => (if t190 = true then (if bt187.1 = 0 then (if bt187.2.1 = 0 then (some (bt187.2.2 == 7)) else (some false)) else (some false)) else (some false)))) else (none)) else (none)) else (none))) = some r := by rw [if_neg (show ¬ (false = true) by decide)] at H; exact H
              clear H
              have H := H1
              clear H1
              by_cases c20 : (t177.length : Int) = 0
              · rw [if_pos c20] at H
                exact absurd H (by simp)
              · rw [if_neg c20] at H
                have c20b0 : ((t177.length : Int) == 0) = false := beq_eq_false_iff_ne.mpr c20
                have c20b1 : ((t177.length : Int) != 0) = true := bne_iff_ne.mpr c20
                have c20b2 : ¬ (t177 = []) := fun h_ => c20 (by rw [h_]; rfl)
                obtain ⟨ji21, hji21⟩ : ∃ j_ : Int, (Int.tmod (wrap64 (Int.tdiv (wrap64 (a3)) 8)) (t177.length : Int)) = j_ := ⟨_, rfl⟩
                replace H : (if 0 ≤ (ji21) then (if (ji21) < (t177.length : Int) then (if 0 ≤ (Int.tmod a3 8) then ((icmp_Parse.f kj11 (t177.set ((ji21) : Int).toNat (Go.bits .xor .u8 (rd t177 (ji21)) (shl .u8 1 (Int.tmod a3 8))))).bind fun bt187 => ((mantletlaw07_awake.f kj11).bind fun t190 => (if t190 = true then (if bt187.1 = 0 then (if bt187.2.1 = 0 then (some (bt187.2.2 == 7)) else (some false)) else (some false)) else (some false)))) else (none)) else (none)) else (none)) = some r := by first | (rw [hji21] at H; exact H) | (simp only [hji21] at H ⊢; exact H)
                by_cases c22 : 0 ≤ (ji21)
                · rw [if_pos c22] at H
                  have c22b0 : decide (0 ≤ (ji21)) = true := decide_eq_true c22
                  clear c22
                  by_cases c23 : (ji21) < (t177.length : Int)
                  · rw [if_pos c23] at H
                    have c23b0 : decide ((ji21) < (t177.length : Int)) = true := decide_eq_true c23
                    clear c23
                    obtain ⟨ji24, hji24⟩ : ∃ j_ : Int, (Int.tmod a3 8) = j_ := ⟨_, rfl⟩
                    replace H : (if 0 ≤ (ji24) then ((icmp_Parse.f kj11 (t177.set ((ji21) : Int).toNat (Go.bits .xor .u8 (rd t177 (ji21)) (shl .u8 1 (ji24))))).bind fun bt187 => ((mantletlaw07_awake.f kj11).bind fun t190 => (if t190 = true then (if bt187.1 = 0 then (if bt187.2.1 = 0 then (some (bt187.2.2 == 7)) else (some false)) else (some false)) else (some false)))) else (none)) = some r := by first | (rw [hji24] at H; exact H) | (simp only [hji24] at H ⊢; exact H)
                    by_cases c25 : 0 ≤ (ji24)
                    · rw [if_pos c25] at H
                      have c25b0 := eq_true c25
                      have c25b1 : decide (0 ≤ (ji24)) = true := decide_eq_true c25
                      clear c25
                      obtain ⟨ji26, hji26⟩ : ∃ j_ : Int, (shl .u8 1 (ji24)) = j_ := ⟨_, rfl⟩
                      replace H : ((icmp_Parse.f kj11 (t177.set ((ji21) : Int).toNat (Go.bits .xor .u8 (rd t177 (ji21)) (ji26)))).bind fun bt187 => ((mantletlaw07_awake.f kj11).bind fun t190 => (if t190 = true then (if bt187.1 = 0 then (if bt187.2.1 = 0 then (some (bt187.2.2 == 7)) else (some false)) else (some false)) else (some false)))) = some r := by first | (rw [hji26] at H; exact H) | (simp only [hji26] at H ⊢; exact H)
                      have hji26_ : (IntKind.u8.wrap (1 * 2 ^ min (ji24).toNat 8)) = ji26 := hji26
                      have hji26z : (ji24) ≤ 8 → (IntKind.u8.wrap (1 * 2 ^ (ji24).toNat)) = ji26 := shl_small hji26
                      have hji26u : (IntKind.u8.wrap (2 ^ min (ji24).toNat 8)) = ji26 := by have h_ := hji26_; rw [Int.one_mul] at h_; exact h_
                      have hji26v : (ji24) ≤ 8 → (IntKind.u8.wrap (2 ^ (ji24).toNat)) = ji26 := fun hle_ => by have h_ := hji26z hle_; rw [Int.one_mul] at h_; exact h_
                      obtain ⟨y186, hy186⟩ : ∃ y_ : List Int, y_ = (t177.set ((ji21) : Int).toNat (Go.bits .xor .u8 (rd t177 (ji21)) (ji26))) := ⟨_, rfl⟩
                      replace H : ((icmp_Parse.f kj11 y186).bind fun bt187 => ((mantletlaw07_awake.f kj11).bind fun t190 => (if t190 = true then (if bt187.1 = 0 then (if bt187.2.1 = 0 then (some (bt187.2.2 == 7)) else (some false)) else (some false)) else (some false)))) = some r := by first | (rw [hy186]; with_reducible exact H) | (have H2_ := (Option.bind_some _ _).symm.trans H; rw [hy186]; with_reducible exact H2_) | (have H2_ := (Option.bind_some _ _).symm.trans H; with_reducible exact H2_) | with_reducible exact H | (rw [hy186]; exact H) | exact H
                      have Ny186 := Aside0.mk hy186
                      clear hy186
                      replace H := Option.bind_eq_some_iff.mp H
                      obtain ⟨⟨t187, t188, t189⟩, A280, H⟩ := H
                      replace H : ((mantletlaw07_awake.f kj11).bind fun t190 => (if t190 = true then (if t187 = 0 then (if t188 = 0 then (some (t189 == 7)) else (some false)) else (some false)) else (some false))) = some r := H
                      have A28 := Aside0.mk A280
                      clear A280
                      replace H := Option.bind_eq_some_iff.mp H
                      obtain ⟨t190, A290, H⟩ := H
                      replace H : (if t190 = true then (if t187 = 0 then (if t188 = 0 then (some (t189 == 7)) else (some false)) else (some false)) else (some false)) = some r := H
                      have A29 := Aside0.mk A290
                      clear A290
                      by_cases c30 : t190 = true
                      · subst c30
                        have H1 : (if t187 = 0 then (if t188 = 0 then (some (t189 == 7)) else (some false)) else (some false)) = some r := by rw [if_pos rfl] at H; exact H
                        clear H
                        have H := H1
                        clear H1
                        by_cases c31 : t187 = 0
                        · rw [if_pos c31] at H
                          have c31b0 : (t187 == 0) = true := beq_iff_eq.mpr c31
                          have c31b1 : (t187 != 0) = false := bne_eq_false_iff_eq.mpr c31
                          clear c31
                          by_cases c32 : t188 = 0
                          · rw [if_pos c32] at H
                            have c32b0 : (t188 == 0) = true := beq_iff_eq.mpr c32
                            have c32b1 : (t188 != 0) = false := bne_eq_false_iff_eq.mpr c32
                            clear c32
                            obtain rfl := Option.some.inj H
                            have p185 : 0 ≤ ((ji21) : Int) := of_decide_eq_true (by first | (with_reducible assumption) | assumption)
                            have q185 : (ji21) < (t177.length : Int) := of_decide_eq_true (by first | (with_reducible assumption) | assumption)
                            obtain ⟨ad185, e185, hx185_0⟩ := Kd.at_int (Kd.K_reads' HO_11.out).2.2 (ji21) p185 q185
                            cases e185
                            replace p185 := eq_true p185
                            replace q185 := eq_true q185
                            have p27 : 0 ≤ ((ji21) : Int) := of_decide_eq_true (by first | (with_reducible assumption) | assumption)
                            have q27 : ((ji21) : Int) < ((t177.length : Int) : Int) := of_decide_eq_true (by first | (with_reducible assumption) | assumption)
                            obtain ⟨go27, co27, eo27, gb27, gl27, cl27, HG27⟩ := Kd.K_form HO_11.out (by omega)
                            (first | cases eo27 | (injection eo27 with ea_ en_ ec_; (first | subst ea_ | (injection ea_ with ea_; subst ea_)); subst ec_; clear en_))
                            have GB27 := Aside0.mk gb27
                            have GG27 := Aside0.mk HG27
                            clear gb27 gl27 HG27
                            (first | simp only [add_plain] at hx185_0 | skip)
                            obtain ⟨hx27_0, hf27_0⟩ := Kd.K_celln 0 HO_11.out ((ji21) : Int) p27 q27
                            replace p27 := eq_true p27
                            replace q27 := eq_true q27
                            have HP33 := Kd.K_putg HO_11.out ((ji21) : Int) (Go.bits .xor .u8 (rd t177 (ji21)) (ji26))
                            go_wp2_with (first | ((with_reducible refine gate_store (t := 5) (p := 78) rfl ?_); refine store_event (t := 5) (p := 78) (v := ?vo_w34) (w1 := (wc.setCell ⟨go27, ((ji21) : Int).toNat, none⟩ (.int .u8 (Go.bits .xor .u8 (rd t177 (ji21)) (ji26))))) ?hg ?ho ?hn ?hr ?_; (case ho => rfl); (case hg => rfl); (case hn => rfl); (case hr => first | (go_simp; done) | (go_simp; rfl)); intro w34 hw; have hg : wc.grownBy w34 (some go27) := (by rw [hw]; exact HP33.2); have hp_ : Kd.K (Kd.int .u8) 5 w34 w.heap.size (fun _ => True) (.slice (some ⟨go27, 0, none⟩) t177.length co15) y186 := (by rw [hw, Ny186.out]; exact HP33.1); clear HP33; have n0_ := Aside0.mk (hp_); have n1_ := Aside0.mk ((by rw [hw]; exact below_set (HB.out) GB27.out : Below w.heap.size w w34)); clear HO_11; clear HB; have HO_11 := n0_; have HB := n1_; clear n0_ n1_; clear hg hw hp_) | ((with_reducible refine gate_callee (f := 24) rfl ?_); refine goesL_ (some 81) rfl rfl Try.func24 (by kernel_rfl) rfl #[.slice (some ⟨go27, 0, none⟩) y186.length co15] rfl (by (try simp only [List.map_toArray, List.map_cons, List.map_nil]); first | done | (rw [show y186.length = t177.length from (Kd.K_reads' HO_11.out).1.symm] <;> rfl) | rfl | (simp only [List.length_drop, List.length_take]; rfl)) ?_; (with_reducible refine (icmp_Parse.calls kj11 _ _ y186 t187 t188 t189 _ ?side1 ?side2 A28.out).mono ?_); (case side1 => repeat (first | exact (Kd.K_reads' HO_11.out).2.2 | (with_reducible refine Kd.C_alloc ?_ _) | (with_reducible refine Kd.C_drewN ?_ _) | (with_reducible refine Kd.C_drew ?_))); (case side2 => rw [show y186.length = t177.length from (Kd.K_reads' HO_11.out).1.symm]; exact (Kd.K_reads' HO_11.out).2.1); rintro e w' ⟨rfl, ⟨nd, rfl⟩⟩; refine ⟨_, rfl, ?_⟩) | ((with_reducible refine gate_callee (f := 27) rfl ?_); refine goesL_ (some 85) rfl rfl Try.func27 (by kernel_rfl) rfl #[] rfl (by (try simp only [List.map_toArray, List.map_cons, List.map_nil]); first | done | rfl | (simp only [List.length_drop, List.length_take]; rfl)) ?_; (with_reducible refine (mantletlaw07_awake.calls kj11  true _ A29.out).mono ?_); rintro e w35 ⟨rfl, hb⟩; refine ⟨_, rfl, ?_⟩; have n0_ := Aside0.mk (Kd.K_below (by (with_reducible repeat (first | apply Kd.K_alloc | apply Kd.K_drewN | apply Kd.K_drew)); exact HO_11.out) hb); have n1_ := Aside0.mk (below_step (by repeat (first | (with_reducible first | exact HB.out | apply below_alloc | apply pw_below_drewN | apply below_drew1) | exact HB.out)) hb); clear HO_11; clear HB; have HO_11 := n0_; have HB := n1_; clear n0_ n1_; (try clear hb); (try clear hb2); (try clear hk); (try clear hi)))
                            go_ret
                            exact ⟨by first | rfl | (simp [errW_none, errW_some] <;> rfl) | (simp only [← hji21, ← hji24, ← hji26]; first | rfl | (simp [errW_none, errW_some] <;> rfl)) | (simp [*, errW_none, errW_some] <;> rfl), by repeat (first | (with_reducible first | exact HB.out | apply below_alloc | apply pw_below_drewN | apply below_drew1) | exact HB.out)⟩
                          · rw [if_neg c32] at H
                            have c32b0 : (t188 == 0) = false := beq_eq_false_iff_ne.mpr c32
                            have c32b1 : (t188 != 0) = true := bne_iff_ne.mpr c32
                            obtain rfl := Option.some.inj H
                            have p185 : 0 ≤ ((ji21) : Int) := of_decide_eq_true (by first | (with_reducible assumption) | assumption)
                            have q185 : (ji21) < (t177.length : Int) := of_decide_eq_true (by first | (with_reducible assumption) | assumption)
                            obtain ⟨ad185, e185, hx185_0⟩ := Kd.at_int (Kd.K_reads' HO_11.out).2.2 (ji21) p185 q185
                            cases e185
                            replace p185 := eq_true p185
                            replace q185 := eq_true q185
                            have p27 : 0 ≤ ((ji21) : Int) := of_decide_eq_true (by first | (with_reducible assumption) | assumption)
                            have q27 : ((ji21) : Int) < ((t177.length : Int) : Int) := of_decide_eq_true (by first | (with_reducible assumption) | assumption)
                            obtain ⟨go27, co27, eo27, gb27, gl27, cl27, HG27⟩ := Kd.K_form HO_11.out (by omega)
                            (first | cases eo27 | (injection eo27 with ea_ en_ ec_; (first | subst ea_ | (injection ea_ with ea_; subst ea_)); subst ec_; clear en_))
                            have GB27 := Aside0.mk gb27
                            have GG27 := Aside0.mk HG27
                            clear gb27 gl27 HG27
                            (first | simp only [add_plain] at hx185_0 | skip)
                            obtain ⟨hx27_0, hf27_0⟩ := Kd.K_celln 0 HO_11.out ((ji21) : Int) p27 q27
                            replace p27 := eq_true p27
                            replace q27 := eq_true q27
                            have HP36 := Kd.K_putg HO_11.out ((ji21) : Int) (Go.bits .xor .u8 (rd t177 (ji21)) (ji26))
                            go_wp2_with (first | ((with_reducible refine gate_store (t := 5) (p := 78) rfl ?_); refine store_event (t := 5) (p := 78) (v := ?vo_w37) (w1 := (wc.setCell ⟨go27, ((ji21) : Int).toNat, none⟩ (.int .u8 (Go.bits .xor .u8 (rd t177 (ji21)) (ji26))))) ?hg ?ho ?hn ?hr ?_; (case ho => rfl); (case hg => rfl); (case hn => rfl); (case hr => first | (go_simp; done) | (go_simp; rfl)); intro w37 hw; have hg : wc.grownBy w37 (some go27) := (by rw [hw]; exact HP36.2); have hp_ : Kd.K (Kd.int .u8) 5 w37 w.heap.size (fun _ => True) (.slice (some ⟨go27, 0, none⟩) t177.length co15) y186 := (by rw [hw, Ny186.out]; exact HP36.1); clear HP36; have n0_ := Aside0.mk (hp_); have n1_ := Aside0.mk ((by rw [hw]; exact below_set (HB.out) GB27.out : Below w.heap.size w w37)); clear HO_11; clear HB; have HO_11 := n0_; have HB := n1_; clear n0_ n1_; clear hg hw hp_) | ((with_reducible refine gate_callee (f := 24) rfl ?_); refine goesL_ (some 81) rfl rfl Try.func24 (by kernel_rfl) rfl #[.slice (some ⟨go27, 0, none⟩) y186.length co15] rfl (by (try simp only [List.map_toArray, List.map_cons, List.map_nil]); first | done | (rw [show y186.length = t177.length from (Kd.K_reads' HO_11.out).1.symm] <;> rfl) | rfl | (simp only [List.length_drop, List.length_take]; rfl)) ?_; (with_reducible refine (icmp_Parse.calls kj11 _ _ y186 t187 t188 t189 _ ?side1 ?side2 A28.out).mono ?_); (case side1 => repeat (first | exact (Kd.K_reads' HO_11.out).2.2 | (with_reducible refine Kd.C_alloc ?_ _) | (with_reducible refine Kd.C_drewN ?_ _) | (with_reducible refine Kd.C_drew ?_))); (case side2 => rw [show y186.length = t177.length from (Kd.K_reads' HO_11.out).1.symm]; exact (Kd.K_reads' HO_11.out).2.1); rintro e w' ⟨rfl, ⟨nd, rfl⟩⟩; refine ⟨_, rfl, ?_⟩) | ((with_reducible refine gate_callee (f := 27) rfl ?_); refine goesL_ (some 85) rfl rfl Try.func27 (by kernel_rfl) rfl #[] rfl (by (try simp only [List.map_toArray, List.map_cons, List.map_nil]); first | done | rfl | (simp only [List.length_drop, List.length_take]; rfl)) ?_; (with_reducible refine (mantletlaw07_awake.calls kj11  true _ A29.out).mono ?_); rintro e w38 ⟨rfl, hb⟩; refine ⟨_, rfl, ?_⟩; have n0_ := Aside0.mk (Kd.K_below (by (with_reducible repeat (first | apply Kd.K_alloc | apply Kd.K_drewN | apply Kd.K_drew)); exact HO_11.out) hb); have n1_ := Aside0.mk (below_step (by repeat (first | (with_reducible first | exact HB.out | apply below_alloc | apply pw_below_drewN | apply below_drew1) | exact HB.out)) hb); clear HO_11; clear HB; have HO_11 := n0_; have HB := n1_; clear n0_ n1_; (try clear hb); (try clear hb2); (try clear hk); (try clear hi)))
                            go_ret
                            exact ⟨by first | rfl | (simp [errW_none, errW_some] <;> rfl) | (simp only [← hji21, ← hji24, ← hji26]; first | rfl | (simp [errW_none, errW_some] <;> rfl)) | (simp [*, errW_none, errW_some] <;> rfl), by repeat (first | (with_reducible first | exact HB.out | apply below_alloc | apply pw_below_drewN | apply below_drew1) | exact HB.out)⟩
                        · rw [if_neg c31] at H
                          have c31b0 : (t187 == 0) = false := beq_eq_false_iff_ne.mpr c31
                          have c31b1 : (t187 != 0) = true := bne_iff_ne.mpr c31
                          obtain rfl := Option.some.inj H
                          have p185 : 0 ≤ ((ji21) : Int) := of_decide_eq_true (by first | (with_reducible assumption) | assumption)
                          have q185 : (ji21) < (t177.length : Int) := of_decide_eq_true (by first | (with_reducible assumption) | assumption)
                          obtain ⟨ad185, e185, hx185_0⟩ := Kd.at_int (Kd.K_reads' HO_11.out).2.2 (ji21) p185 q185
                          cases e185
                          replace p185 := eq_true p185
                          replace q185 := eq_true q185
                          have p27 : 0 ≤ ((ji21) : Int) := of_decide_eq_true (by first | (with_reducible assumption) | assumption)
                          have q27 : ((ji21) : Int) < ((t177.length : Int) : Int) := of_decide_eq_true (by first | (with_reducible assumption) | assumption)
                          obtain ⟨go27, co27, eo27, gb27, gl27, cl27, HG27⟩ := Kd.K_form HO_11.out (by omega)
                          (first | cases eo27 | (injection eo27 with ea_ en_ ec_; (first | subst ea_ | (injection ea_ with ea_; subst ea_)); subst ec_; clear en_))
                          have GB27 := Aside0.mk gb27
                          have GG27 := Aside0.mk HG27
                          clear gb27 gl27 HG27
                          (first | simp only [add_plain] at hx185_0 | skip)
                          obtain ⟨hx27_0, hf27_0⟩ := Kd.K_celln 0 HO_11.out ((ji21) : Int) p27 q27
                          replace p27 := eq_true p27
                          replace q27 := eq_true q27
                          have HP39 := Kd.K_putg HO_11.out ((ji21) : Int) (Go.bits .xor .u8 (rd t177 (ji21)) (ji26))
                          go_wp2_with (first | ((with_reducible refine gate_store (t := 5) (p := 78) rfl ?_); refine store_event (t := 5) (p := 78) (v := ?vo_w40) (w1 := (wc.setCell ⟨go27, ((ji21) : Int).toNat, none⟩ (.int .u8 (Go.bits .xor .u8 (rd t177 (ji21)) (ji26))))) ?hg ?ho ?hn ?hr ?_; (case ho => rfl); (case hg => rfl); (case hn => rfl); (case hr => first | (go_simp; done) | (go_simp; rfl)); intro w40 hw; have hg : wc.grownBy w40 (some go27) := (by rw [hw]; exact HP39.2); have hp_ : Kd.K (Kd.int .u8) 5 w40 w.heap.size (fun _ => True) (.slice (some ⟨go27, 0, none⟩) t177.length co15) y186 := (by rw [hw, Ny186.out]; exact HP39.1); clear HP39; have n0_ := Aside0.mk (hp_); have n1_ := Aside0.mk ((by rw [hw]; exact below_set (HB.out) GB27.out : Below w.heap.size w w40)); clear HO_11; clear HB; have HO_11 := n0_; have HB := n1_; clear n0_ n1_; clear hg hw hp_) | ((with_reducible refine gate_callee (f := 24) rfl ?_); refine goesL_ (some 81) rfl rfl Try.func24 (by kernel_rfl) rfl #[.slice (some ⟨go27, 0, none⟩) y186.length co15] rfl (by (try simp only [List.map_toArray, List.map_cons, List.map_nil]); first | done | (rw [show y186.length = t177.length from (Kd.K_reads' HO_11.out).1.symm] <;> rfl) | rfl | (simp only [List.length_drop, List.length_take]; rfl)) ?_; (with_reducible refine (icmp_Parse.calls kj11 _ _ y186 t187 t188 t189 _ ?side1 ?side2 A28.out).mono ?_); (case side1 => repeat (first | exact (Kd.K_reads' HO_11.out).2.2 | (with_reducible refine Kd.C_alloc ?_ _) | (with_reducible refine Kd.C_drewN ?_ _) | (with_reducible refine Kd.C_drew ?_))); (case side2 => rw [show y186.length = t177.length from (Kd.K_reads' HO_11.out).1.symm]; exact (Kd.K_reads' HO_11.out).2.1); rintro e w' ⟨rfl, ⟨nd, rfl⟩⟩; refine ⟨_, rfl, ?_⟩) | ((with_reducible refine gate_callee (f := 27) rfl ?_); refine goesL_ (some 85) rfl rfl Try.func27 (by kernel_rfl) rfl #[] rfl (by (try simp only [List.map_toArray, List.map_cons, List.map_nil]); first | done | rfl | (simp only [List.length_drop, List.length_take]; rfl)) ?_; (with_reducible refine (mantletlaw07_awake.calls kj11  true _ A29.out).mono ?_); rintro e w41 ⟨rfl, hb⟩; refine ⟨_, rfl, ?_⟩; have n0_ := Aside0.mk (Kd.K_below (by (with_reducible repeat (first | apply Kd.K_alloc | apply Kd.K_drewN | apply Kd.K_drew)); exact HO_11.out) hb); have n1_ := Aside0.mk (below_step (by repeat (first | (with_reducible first | exact HB.out | apply below_alloc | apply pw_below_drewN | apply below_drew1) | exact HB.out)) hb); clear HO_11; clear HB; have HO_11 := n0_; have HB := n1_; clear n0_ n1_; (try clear hb); (try clear hb2); (try clear hk); (try clear hi)))
                          go_ret
                          exact ⟨by first | rfl | (simp [errW_none, errW_some] <;> rfl) | (simp only [← hji21, ← hji24, ← hji26]; first | rfl | (simp [errW_none, errW_some] <;> rfl)) | (simp [*, errW_none, errW_some] <;> rfl), by repeat (first | (with_reducible first | exact HB.out | apply below_alloc | apply pw_below_drewN | apply below_drew1) | exact HB.out)⟩
                      · replace c30 := Bool.eq_false_iff.mpr c30
                        subst c30
                        have H1 : (some false) = some r := by rw [if_neg (show ¬ (false = true) by decide)] at H; exact H
                        clear H
                        have H := H1
                        clear H1
                        obtain rfl := Option.some.inj H
                        have p185 : 0 ≤ ((ji21) : Int) := of_decide_eq_true (by first | (with_reducible assumption) | assumption)
                        have q185 : (ji21) < (t177.length : Int) := of_decide_eq_true (by first | (with_reducible assumption) | assumption)
                        obtain ⟨ad185, e185, hx185_0⟩ := Kd.at_int (Kd.K_reads' HO_11.out).2.2 (ji21) p185 q185
                        cases e185
                        replace p185 := eq_true p185
                        replace q185 := eq_true q185
                        have p27 : 0 ≤ ((ji21) : Int) := of_decide_eq_true (by first | (with_reducible assumption) | assumption)
                        have q27 : ((ji21) : Int) < ((t177.length : Int) : Int) := of_decide_eq_true (by first | (with_reducible assumption) | assumption)
                        obtain ⟨go27, co27, eo27, gb27, gl27, cl27, HG27⟩ := Kd.K_form HO_11.out (by omega)
                        (first | cases eo27 | (injection eo27 with ea_ en_ ec_; (first | subst ea_ | (injection ea_ with ea_; subst ea_)); subst ec_; clear en_))
                        have GB27 := Aside0.mk gb27
                        have GG27 := Aside0.mk HG27
                        clear gb27 gl27 HG27
                        (first | simp only [add_plain] at hx185_0 | skip)
                        obtain ⟨hx27_0, hf27_0⟩ := Kd.K_celln 0 HO_11.out ((ji21) : Int) p27 q27
                        replace p27 := eq_true p27
                        replace q27 := eq_true q27
                        have HP42 := Kd.K_putg HO_11.out ((ji21) : Int) (Go.bits .xor .u8 (rd t177 (ji21)) (ji26))
                        go_wp2_with (first | ((with_reducible refine gate_store (t := 5) (p := 78) rfl ?_); refine store_event (t := 5) (p := 78) (v := ?vo_w43) (w1 := (wc.setCell ⟨go27, ((ji21) : Int).toNat, none⟩ (.int .u8 (Go.bits .xor .u8 (rd t177 (ji21)) (ji26))))) ?hg ?ho ?hn ?hr ?_; (case ho => rfl); (case hg => rfl); (case hn => rfl); (case hr => first | (go_simp; done) | (go_simp; rfl)); intro w43 hw; have hg : wc.grownBy w43 (some go27) := (by rw [hw]; exact HP42.2); have hp_ : Kd.K (Kd.int .u8) 5 w43 w.heap.size (fun _ => True) (.slice (some ⟨go27, 0, none⟩) t177.length co15) y186 := (by rw [hw, Ny186.out]; exact HP42.1); clear HP42; have n0_ := Aside0.mk (hp_); have n1_ := Aside0.mk ((by rw [hw]; exact below_set (HB.out) GB27.out : Below w.heap.size w w43)); clear HO_11; clear HB; have HO_11 := n0_; have HB := n1_; clear n0_ n1_; clear hg hw hp_) | ((with_reducible refine gate_callee (f := 24) rfl ?_); refine goesL_ (some 81) rfl rfl Try.func24 (by kernel_rfl) rfl #[.slice (some ⟨go27, 0, none⟩) y186.length co15] rfl (by (try simp only [List.map_toArray, List.map_cons, List.map_nil]); first | done | (rw [show y186.length = t177.length from (Kd.K_reads' HO_11.out).1.symm] <;> rfl) | rfl | (simp only [List.length_drop, List.length_take]; rfl)) ?_; (with_reducible refine (icmp_Parse.calls kj11 _ _ y186 t187 t188 t189 _ ?side1 ?side2 A28.out).mono ?_); (case side1 => repeat (first | exact (Kd.K_reads' HO_11.out).2.2 | (with_reducible refine Kd.C_alloc ?_ _) | (with_reducible refine Kd.C_drewN ?_ _) | (with_reducible refine Kd.C_drew ?_))); (case side2 => rw [show y186.length = t177.length from (Kd.K_reads' HO_11.out).1.symm]; exact (Kd.K_reads' HO_11.out).2.1); rintro e w' ⟨rfl, ⟨nd, rfl⟩⟩; refine ⟨_, rfl, ?_⟩) | ((with_reducible refine gate_callee (f := 27) rfl ?_); refine goesL_ (some 85) rfl rfl Try.func27 (by kernel_rfl) rfl #[] rfl (by (try simp only [List.map_toArray, List.map_cons, List.map_nil]); first | done | rfl | (simp only [List.length_drop, List.length_take]; rfl)) ?_; (with_reducible refine (mantletlaw07_awake.calls kj11  false _ A29.out).mono ?_); rintro e w44 ⟨rfl, hb⟩; refine ⟨_, rfl, ?_⟩; have n0_ := Aside0.mk (Kd.K_below (by (with_reducible repeat (first | apply Kd.K_alloc | apply Kd.K_drewN | apply Kd.K_drew)); exact HO_11.out) hb); have n1_ := Aside0.mk (below_step (by repeat (first | (with_reducible first | exact HB.out | apply below_alloc | apply pw_below_drewN | apply below_drew1) | exact HB.out)) hb); clear HO_11; clear HB; have HO_11 := n0_; have HB := n1_; clear n0_ n1_; (try clear hb); (try clear hb2); (try clear hk); (try clear hi)))
                        go_ret
                        exact ⟨by first | rfl | (simp [errW_none, errW_some] <;> rfl) | (simp only [← hji21, ← hji24, ← hji26]; first | rfl | (simp [errW_none, errW_some] <;> rfl)) | (simp [*, errW_none, errW_some] <;> rfl), by repeat (first | (with_reducible first | exact HB.out | apply below_alloc | apply pw_below_drewN | apply below_drew1) | exact HB.out)⟩
                    · rw [if_neg c25] at H
                      exact absurd H (by simp)
                  · rw [if_neg c23] at H
                    exact absurd H (by simp)
                · rw [if_neg c22] at H
                  exact absurd H (by simp)
      · rw [if_neg c10] at H
        have c10b0 : (t180 == 0) = false := beq_eq_false_iff_ne.mpr c10
        have c10b1 : (t180 != 0) = true := bne_iff_ne.mpr c10
        replace H := Option.bind_eq_some_iff.mp H
        obtain ⟨t181, A450, H⟩ := H
        replace H : (if t181 = true then (if (t174.length : Int) > 1472 then (some ((t177.length : Int) == 0)) else (some false)) else (some false)) = some r := H
        have A45 := Aside0.mk A450
        clear A450
        by_cases c46 : t181 = true
        · subst c46
          have H1 : (if (t174.length : Int) > 1472 then (some ((t177.length : Int) == 0)) else (some false)) = some r := by rw [if_pos rfl] at H; exact H
          clear H
          have H := H1
          clear H1
          by_cases c47 : (t174.length : Int) > 1472
          · rw [if_pos c47] at H
            have c47b0 : decide (1472 < (t174.length : Int)) = true := decide_eq_true c47
            have c47b1 : decide (1472 < t174.length) = true := decide_eq_true (by omega)
            clear c47
            obtain rfl := Option.some.inj H
            obtain ⟨Ao48, co48, eo48⟩ := Kd.V_slice HO_9.out
            subst eo48
            go_wp2_with (first | ((with_reducible refine gate_callee (f := 28) rfl ?_); refine goesL_ (some 23) rfl rfl Try.func28 (by kernel_rfl) rfl #[.int .u8 x10_5, .int .u16 a1, .slice Ao48 t174.length co48] rfl (by (try simp only [List.map_toArray, List.map_cons, List.map_nil]); first | done | rfl | (simp only [List.length_drop, List.length_take]; rfl)) ?_; (with_reducible refine (icmp_Build.strong kj5 x10_5 a1 (fun k_ => True) _ _ t174 t177 t180 _ ?side1 A9.out).mono ?_); (case side1 => exact HO_9.out); rintro e w49 ⟨v178, rfl, ho0, hb⟩; refine ⟨_, rfl, ?_⟩; have n0_ := Aside0.mk (Kd.V_elder' (by (with_reducible repeat (first | apply Kd.V_alloc | apply Kd.V_drewN | apply Kd.V_drew)); exact HO_9.out) (Kd.K_base ho0) hb); have n1_ := Aside0.mk (Kd.K_lower (Kd.K_mono (ok' := fun k_ => True) ho0 (fun _ hk_ => trivial)) (below_size (by repeat (first | (with_reducible first | exact HB.out | apply below_alloc | apply pw_below_drewN | apply below_drew1) | exact HB.out)))); have n2_ := Aside0.mk (below_step (by repeat (first | (with_reducible first | exact HB.out | apply below_alloc | apply pw_below_drewN | apply below_drew1) | exact HB.out)) hb); clear HO_9; clear HB; have HO_9 := n0_; have HO179 := n1_; have HB := n2_; clear n0_ n1_ n2_; (try clear hb); (try clear hb2); (try clear hk); (try clear hi); (try clear ho0)) | ((with_reducible refine gate_callee (f := 27) rfl ?_); refine goesL_ (some 28) rfl rfl Try.func27 (by kernel_rfl) rfl #[] rfl (by (try simp only [List.map_toArray, List.map_cons, List.map_nil]); first | done | rfl | (simp only [List.length_drop, List.length_take]; rfl)) ?_; (with_reducible refine (mantletlaw07_awake.calls kj5  true _ A45.out).mono ?_); rintro e w50 ⟨rfl, hb⟩; refine ⟨_, rfl, ?_⟩; have n0_ := Aside0.mk (Kd.V_below (by (with_reducible repeat (first | apply Kd.V_alloc | apply Kd.V_drewN | apply Kd.V_drew)); exact HO_9.out) hb); have n1_ := Aside0.mk (Kd.K_below (by (with_reducible repeat (first | apply Kd.K_alloc | apply Kd.K_drewN | apply Kd.K_drew)); exact HO179.out) hb); have n2_ := Aside0.mk (below_step (by repeat (first | (with_reducible first | exact HB.out | apply below_alloc | apply pw_below_drewN | apply below_drew1) | exact HB.out)) hb); clear HO_9; clear HO179; clear HB; have HO_9 := n0_; have HO179 := n1_; have HB := n2_; clear n0_ n1_ n2_; (try clear hb); (try clear hb2); (try clear hk); (try clear hi); obtain ⟨Ao51, co51, eo51⟩ := Kd.K_slice HO179.out; subst eo51))
            go_ret
            exact ⟨by first | rfl | (simp [errW_none, errW_some] <;> rfl) | (simp [*, errW_none, errW_some] <;> rfl), by repeat (first | (with_reducible first | exact HB.out | apply below_alloc | apply pw_below_drewN | apply below_drew1) | exact HB.out)⟩
          · rw [if_neg c47] at H
            have c47b0 : decide (1472 < (t174.length : Int)) = false := decide_eq_false c47
            have c47b1 : decide (1472 < t174.length) = false := decide_eq_false (by omega)
            clear c47
            obtain rfl := Option.some.inj H
            obtain ⟨Ao52, co52, eo52⟩ := Kd.V_slice HO_9.out
            subst eo52
            go_wp2_with (first | ((with_reducible refine gate_callee (f := 28) rfl ?_); refine goesL_ (some 23) rfl rfl Try.func28 (by kernel_rfl) rfl #[.int .u8 x10_5, .int .u16 a1, .slice Ao52 t174.length co52] rfl (by (try simp only [List.map_toArray, List.map_cons, List.map_nil]); first | done | rfl | (simp only [List.length_drop, List.length_take]; rfl)) ?_; (with_reducible refine (icmp_Build.strong kj5 x10_5 a1 (fun k_ => True) _ _ t174 t177 t180 _ ?side1 A9.out).mono ?_); (case side1 => exact HO_9.out); rintro e w53 ⟨v178, rfl, ho0, hb⟩; refine ⟨_, rfl, ?_⟩; have n0_ := Aside0.mk (Kd.V_elder' (by (with_reducible repeat (first | apply Kd.V_alloc | apply Kd.V_drewN | apply Kd.V_drew)); exact HO_9.out) (Kd.K_base ho0) hb); have n1_ := Aside0.mk (Kd.K_lower (Kd.K_mono (ok' := fun k_ => True) ho0 (fun _ hk_ => trivial)) (below_size (by repeat (first | (with_reducible first | exact HB.out | apply below_alloc | apply pw_below_drewN | apply below_drew1) | exact HB.out)))); have n2_ := Aside0.mk (below_step (by repeat (first | (with_reducible first | exact HB.out | apply below_alloc | apply pw_below_drewN | apply below_drew1) | exact HB.out)) hb); clear HO_9; clear HB; have HO_9 := n0_; have HO179 := n1_; have HB := n2_; clear n0_ n1_ n2_; (try clear hb); (try clear hb2); (try clear hk); (try clear hi); (try clear ho0)) | ((with_reducible refine gate_callee (f := 27) rfl ?_); refine goesL_ (some 28) rfl rfl Try.func27 (by kernel_rfl) rfl #[] rfl (by (try simp only [List.map_toArray, List.map_cons, List.map_nil]); first | done | rfl | (simp only [List.length_drop, List.length_take]; rfl)) ?_; (with_reducible refine (mantletlaw07_awake.calls kj5  true _ A45.out).mono ?_); rintro e w54 ⟨rfl, hb⟩; refine ⟨_, rfl, ?_⟩; have n0_ := Aside0.mk (Kd.V_below (by (with_reducible repeat (first | apply Kd.V_alloc | apply Kd.V_drewN | apply Kd.V_drew)); exact HO_9.out) hb); have n1_ := Aside0.mk (Kd.K_below (by (with_reducible repeat (first | apply Kd.K_alloc | apply Kd.K_drewN | apply Kd.K_drew)); exact HO179.out) hb); have n2_ := Aside0.mk (below_step (by repeat (first | (with_reducible first | exact HB.out | apply below_alloc | apply pw_below_drewN | apply below_drew1) | exact HB.out)) hb); clear HO_9; clear HO179; clear HB; have HO_9 := n0_; have HO179 := n1_; have HB := n2_; clear n0_ n1_ n2_; (try clear hb); (try clear hb2); (try clear hk); (try clear hi)))
            go_ret
            exact ⟨by first | rfl | (simp [errW_none, errW_some] <;> rfl) | (simp [*, errW_none, errW_some] <;> rfl), by repeat (first | (with_reducible first | exact HB.out | apply below_alloc | apply pw_below_drewN | apply below_drew1) | exact HB.out)⟩
        · replace c46 := Bool.eq_false_iff.mpr c46
          subst c46
          have H1 : (some false) = some r := by rw [if_neg (show ¬ (false = true) by decide)] at H; exact H
          clear H
          have H := H1
          clear H1
          obtain rfl := Option.some.inj H
          obtain ⟨Ao55, co55, eo55⟩ := Kd.V_slice HO_9.out
          subst eo55
          go_wp2_with (first | ((with_reducible refine gate_callee (f := 28) rfl ?_); refine goesL_ (some 23) rfl rfl Try.func28 (by kernel_rfl) rfl #[.int .u8 x10_5, .int .u16 a1, .slice Ao55 t174.length co55] rfl (by (try simp only [List.map_toArray, List.map_cons, List.map_nil]); first | done | rfl | (simp only [List.length_drop, List.length_take]; rfl)) ?_; (with_reducible refine (icmp_Build.strong kj5 x10_5 a1 (fun k_ => True) _ _ t174 t177 t180 _ ?side1 A9.out).mono ?_); (case side1 => exact HO_9.out); rintro e w56 ⟨v178, rfl, ho0, hb⟩; refine ⟨_, rfl, ?_⟩; have n0_ := Aside0.mk (Kd.V_elder' (by (with_reducible repeat (first | apply Kd.V_alloc | apply Kd.V_drewN | apply Kd.V_drew)); exact HO_9.out) (Kd.K_base ho0) hb); have n1_ := Aside0.mk (Kd.K_lower (Kd.K_mono (ok' := fun k_ => True) ho0 (fun _ hk_ => trivial)) (below_size (by repeat (first | (with_reducible first | exact HB.out | apply below_alloc | apply pw_below_drewN | apply below_drew1) | exact HB.out)))); have n2_ := Aside0.mk (below_step (by repeat (first | (with_reducible first | exact HB.out | apply below_alloc | apply pw_below_drewN | apply below_drew1) | exact HB.out)) hb); clear HO_9; clear HB; have HO_9 := n0_; have HO179 := n1_; have HB := n2_; clear n0_ n1_ n2_; (try clear hb); (try clear hb2); (try clear hk); (try clear hi); (try clear ho0)) | ((with_reducible refine gate_callee (f := 27) rfl ?_); refine goesL_ (some 28) rfl rfl Try.func27 (by kernel_rfl) rfl #[] rfl (by (try simp only [List.map_toArray, List.map_cons, List.map_nil]); first | done | rfl | (simp only [List.length_drop, List.length_take]; rfl)) ?_; (with_reducible refine (mantletlaw07_awake.calls kj5  false _ A45.out).mono ?_); rintro e w57 ⟨rfl, hb⟩; refine ⟨_, rfl, ?_⟩; have n0_ := Aside0.mk (Kd.V_below (by (with_reducible repeat (first | apply Kd.V_alloc | apply Kd.V_drewN | apply Kd.V_drew)); exact HO_9.out) hb); have n1_ := Aside0.mk (Kd.K_below (by (with_reducible repeat (first | apply Kd.K_alloc | apply Kd.K_drewN | apply Kd.K_drew)); exact HO179.out) hb); have n2_ := Aside0.mk (below_step (by repeat (first | (with_reducible first | exact HB.out | apply below_alloc | apply pw_below_drewN | apply below_drew1) | exact HB.out)) hb); clear HO_9; clear HO179; clear HB; have HO_9 := n0_; have HO179 := n1_; have HB := n2_; clear n0_ n1_ n2_; (try clear hb); (try clear hb2); (try clear hk); (try clear hi)))
          go_ret
          exact ⟨by first | rfl | (simp [errW_none, errW_some] <;> rfl) | (simp [*, errW_none, errW_some] <;> rfl), by repeat (first | (with_reducible first | exact HB.out | apply below_alloc | apply pw_below_drewN | apply below_drew1) | exact HB.out)⟩

/-- THE ONE PURE STATEMENT of mantletlaw07_IcmpBack: yours. -/
def mantletlaw07_IcmpBack.Pure : Prop := ∀ (a0 : Bool) (a1 : Int) (l2 : List Int) (a3 : Int), (Lit.int .u16 a1).wf = true → l2.length ≤ maxLen → l2.length * 1 ≤ 140737488351232 → (∀ x ∈ l2, (Lit.int .u8 x).wf = true) → (Lit.int .u16 a3).wf = true → ∃ k, mantletlaw07_IcmpBack.f k a0 a1 l2 a3 = some true
theorem mantletlaw07_IcmpBack.walk (P : mantletlaw07_IcmpBack.Pure) (a0 : Bool) (a1 : Int) (a2 : Option Addr) (len2 cap2 : Nat) (z2 : List Int) (a3 : Int) (w : World) (w1 : (Lit.int .u16 a1).wf = true) (w2 : (a2 = none ∧ len2 = 0 ∧ cap2 = 0 ∧ z2 = []) ∨ ∃ x, a2 = some x ∧ len2 ≤ cap2 ∧ cap2 ≤ maxLen ∧ z2.length = cap2 ∧ (∀ i, i < z2.length → w.cell? (x.add i) = some (.int .u8 (z2.getD i 0))) ∧ ∀ n ∈ z2, (Lit.int .u8 n).wf = true) (y2 : len2 * 1 ≤ 140737488351232) (w3 : (Lit.int .u16 a3).wf = true) :
    Calls Try.prog 5 #[.bool a0, .int .u16 a1, .slice a2 len2 cap2, .int .u16 a3] w fun e w' => e = .returned (.bool true) ∧ Below w.heap.size w w' := by
  obtain ⟨l2, rfl, hr2, hm2, hw2, hc2⟩ := ReadsInt.ofRowC w2
  obtain ⟨k, h⟩ := P a0 a1 l2 a3 w1 hm2 y2 hw2 w3
  refine (mantletlaw07_IcmpBack.calls k a0 a1 _ _ l2 a3 true w (Kd.C_of_reads (d := (0 : Int)) (h1 := fun _ => rfl) hr2) hc2 h).mono ?_
  rintro e w' ⟨rfl, hd⟩
  exact ⟨rfl, hd⟩

end Go.Proofs.Ytofjgdbiieanjaa.All
