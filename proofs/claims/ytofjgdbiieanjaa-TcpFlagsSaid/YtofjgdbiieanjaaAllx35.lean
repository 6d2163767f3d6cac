-- Made by a program of this workplace (wip/pr.sh) out of Lean's print of the translation; Lean checks it.
import Derived.Test.YtofjgdbiieanjaaAllx0
import Derived.Test.YtofjgdbiieanjaaAllx22
import Derived.Test.YtofjgdbiieanjaaAllx30
namespace Go.Proofs.Ytofjgdbiieanjaa.All
open Go.Proofs.Ytofjgdbiieanjaa.Ext
open Go.RowKit Go.Proofs.YtofjgdbiieanjaaW.PrintWords Go.Proofs.YtofjgdbiieanjaaW.PrintLast Go.Proofs.YtofjgdbiieanjaaW.PrintMore
attribute [local go_sem] max2_int min2_int max_two min_two max_three min_three max_four min_four   -- for this text's walks alone
set_option linter.unusedVariables false
set_option linter.unusedSimpArgs false

/-! ### mantletlaw05_TcpFlags: function 9 -/
def mantletlaw05_TcpFlags.f (k : Nat) (a0 : Int) : Option (Bool) := (tcp_Sane.f a0).bind fun t488 => ((mantletlaw05_awake.f k).bind fun t489 => (if t489 = true then ((tcp_Sane.f (Go.bits .xor .u8 a0 8)).bind fun t490 => (if (t490 == t488) = true then ((tcp_Sane.f (Go.bits .xor .u8 a0 32)).bind fun t491 => (if (t491 == t488) = true then ((tcp_Sane.f (Go.bits .or .u8 (Go.bits .or .u8 a0 1) 2)).bind fun t492 => (if t492 = true then (some false) else ((tcp_Sane.f (Go.bits .or .u8 (Go.bits .or .u8 a0 4) 2)).bind fun t493 => (if t493 = true then (some false) else ((tcp_Sane.f (Go.bits .or .u8 (Go.bits .or .u8 a0 4) 1)).bind fun t494 => (if t494 = true then (some false) else (if t488 = true then ((tcp_Sane.f (Go.bits .or .u8 a0 16)).bind fun t495 => (some t495)) else (some true)))))))) else (some false))) else (some false))) else (some false)))
theorem mantletlaw05_TcpFlags.mono : ∀ a0 k, LeO (mantletlaw05_TcpFlags.f k a0) (mantletlaw05_TcpFlags.f (k + 1) a0) := by
  intro a0 k
  unfold mantletlaw05_TcpFlags.f
  repeat' first
      | (with_reducible exact mantletlaw05_awake.mono _)
      | (with_reducible exact LeO.refl _)
      | (with_reducible exact LeO.none _)
      | (with_reducible refine LeO.ite ?_ ?_)
      | (with_reducible refine LeO.bind ?_ (fun _ => ?_))
      | exact mantletlaw05_awake.mono _
      | exact LeO.none _
      | refine LeO.ite ?_ ?_
      | refine LeO.bind ?_ (fun _ => ?_)
set_option maxHeartbeats 8000000 in
set_option maxRecDepth 100000 in
theorem mantletlaw05_TcpFlags.calls (k : Nat) (a0 : Int) (r : Bool) (w : World) (h : mantletlaw05_TcpFlags.f k a0 = some r) :
    Calls Try.prog 9 #[.int .u8 a0] w fun e w' => e = .returned (.bool r) ∧ Below w.heap.size w w' := by
  have HB := Aside0.mk (Below.refl w.heap.size w)
  have H : ((tcp_Sane.f a0).bind fun t488 => ((mantletlaw05_awake.f k).bind fun t489 => (if t489 = true then ((tcp_Sane.f (Go.bits .xor .u8 a0 8)).bind fun t490 => (if (t490 == t488) = true then ((tcp_Sane.f (Go.bits .xor .u8 a0 32)).bind fun t491 => (if (t491 == t488) = true then ((tcp_Sane.f (Go.bits .or .u8 (Go.bits .or .u8 a0 1) 2)).bind fun t492 => (if t492 = true then (some false) else ((tcp_Sane.f (Go.bits .or .u8 (Go.bits .or .u8 a0 4) 2)).bind fun t493 => (if t493 = true then (some false) else ((tcp_Sane.f (Go.bits .or .u8 (Go.bits .or .u8 a0 4) 1)).bind fun t494 => (if t494 = true then (some false) else (if t488 = true then ((tcp_Sane.f (Go.bits .or .u8 a0 16)).bind fun t495 => (some t495)) else (some true)))))))) else (some false))) else (some false))) else (some false)))) = some r := h
  clear h
  replace H := Option.bind_eq_some_iff.mp H
  obtain ⟨t488, A20, H⟩ := H
  replace H : ((mantletlaw05_awake.f k).bind fun t489 => (if t489 = true then ((tcp_Sane.f (Go.bits .xor .u8 a0 8)).bind fun t490 => (if (t490 == t488) = true then ((tcp_Sane.f (Go.bits .xor .u8 a0 32)).bind fun t491 => (if (t491 == t488) = true then ((tcp_Sane.f (Go.bits .or .u8 (Go.bits .or .u8 a0 1) 2)).bind fun t492 => (if t492 = true then (some false) else ((tcp_Sane.f (Go.bits .or .u8 (Go.bits .or .u8 a0 4) 2)).bind fun t493 => (if t493 = true then (some false) else ((tcp_Sane.f (Go.bits .or .u8 (Go.bits .or .u8 a0 4) 1)).bind fun t494 => (if t494 = true then (some false) else (if t488 = true then ((tcp_Sane.f (Go.bits .or .u8 a0 16)).bind fun t495 => (some t495)) else (some true)))))))) else (some false))) else (some false))) else (some false))) = some r := H
  have A2 := Aside0.mk A20
  clear A20
  replace H := Option.bind_eq_some_iff.mp H
  obtain ⟨t489, A30, H⟩ := H
  replace H : (if t489 = true then ((tcp_Sane.f (Go.bits .xor .u8 a0 8)).bind fun t490 => (if (t490 == t488) = true then ((tcp_Sane.f (Go.bits .xor .u8 a0 32)).bind fun t491 => (if (t491 == t488) = true then ((tcp_Sane.f (Go.bits .or .u8 (Go.bits .or .u8 a0 1) 2)).bind fun t492 => (if t492 = true then (some false) else ((tcp_Sane.f (Go.bits .or .u8 (Go.bits .or .u8 a0 4) 2)).bind fun t493 => (if t493 = true then (some false) else ((tcp_Sane.f (Go.bits .or .u8 (Go.bits .or .u8 a0 4) 1)).bind fun t494 => (if t494 = true then (some false) else (if t488 = true then ((tcp_Sane.f (Go.bits .or .u8 a0 16)).bind fun t495 => (some t495)) else (some true)))))))) else (some false))) else (some false))) else (some false)) = some r := H
  have A3 := Aside0.mk A30
  clear A30
  by_cases c4 : t489 = true
  · subst c4
    have H1 : ((tcp_Sane.f (Go.bits .xor .u8 a0 8)).bind fun t490 => (if (t490 == t488) = true then ((tcp_Sane.f (Go.bits .xor .u8 a0 32)).bind fun t491 => (if (t491 == t488) = true then ((tcp_Sane.f (Go.bits .or .u8 (Go.bits .or .u8 a0 1) 2)).bind fun t492 => (if t492 = true then (some false) else ((tcp_Sane.f (Go.bits .or .u8 (Go.bits .or .u8 a0 4) 2)).bind fun t493 => (if t493 = true then (some false) else ((tcp_Sane.f (Go.bits .or .u8 (Go.bits .or .u8 a0 4) 1)).bind fun t494 => (if t494 = true then (some false) else (if t488 = true then ((tcp_Sane.f (Go.bits .or .u8 a0 16)).bind fun t495 => (some t495)) else (some true)))))))) else (some false))) else (some false))) = some r := by rw [if_pos rfl] at H; exact H
    clear H
    have H := H1
    clear H1
    replace H := Option.bind_eq_some_iff.mp H
    obtain ⟨t490, A50, H⟩ := H
    replace H : (if (t490 == t488) = true then ((tcp_Sane.f (Go.bits .xor .u8 a0 32)).bind fun t491 => (if (t491 == t488) = true then ((tcp_Sane.f (Go.bits .or .u8 (Go.bits .or .u8 a0 1) 2)).bind fun t492 => (if t492 = true then (some false) else ((tcp_Sane.f (Go.bits .or .u8 (Go.bits .or .u8 a0 4) 2)).bind fun t493 => (if t493 = true then (some false) else ((tcp_Sane.f (Go.bits .or .u8 (Go.bits .or .u8 a0 4) 1)).bind fun t494 => (if t494 = true then (some false) else (if t488 = true then ((tcp_Sane.f (Go.bits .or .u8 a0 16)).bind fun t495 => (some t495)) else (some true)))))))) else (some false))) else (some false)) = some r := H
    have A5 := Aside0.mk A50
    clear A50
    by_cases c6 : (t490 == t488) = true
    · rw [if_pos c6] at H
      have c6b0 : (t490 == t488) = true := c6
      (try (have c6b1 : decide (t490 = t488) = true := by simpa using c6))
      (try (have c6b2 : (t490 == t488) = true := by simpa using c6))
      clear c6
      replace H := Option.bind_eq_some_iff.mp H
      obtain ⟨t491, A70, H⟩ := H
      replace H : (if (t491 == t488) = true then ((tcp_Sane.f (Go.bits .or .u8 (Go.bits .or .u8 a0 1) 2)).bind fun t492 => (if t492 = true then (some false) else ((tcp_Sane.f (Go.bits .or .u8 (Go.bits .or .u8 a0 4) 2)).bind fun t493 => (if t493 = true then (some false) else ((tcp_Sane.f (Go.bits .or .u8 (Go.bits .or .u8 a0 4) 1)).bind fun t494 => (if t494 = true then (some false) else (if t488 = true then ((tcp_Sane.f (Go.bits .or .u8 a0 16)).bind fun t495 => (some t495)) else (some true)))))))) else (some false)) = some r := H
      have A7 := Aside0.mk A70
      clear A70
      by_cases c8 : (t491 == t488) = true
      · rw [if_pos c8] at H
        have c8b0 : (t491 == t488) = true := c8
        (try (have c8b1 : decide (t491 = t488) = true := by simpa using c8))
        (try (have c8b2 : (t491 == t488) = true := by simpa using c8))
        clear c8
        replace H := Option.bind_eq_some_iff.mp H
        obtain ⟨t492, A90, H⟩ := H
        replace H : (if t492 = true then (some false) else ((tcp_Sane.f (Go.bits .or .u8 (Go.bits .or .u8 a0 4) 2)).bind fun t493 => (if t493 = true then (some false) else ((tcp_Sane.f (Go.bits .or .u8 (Go.bits .or .u8 a0 4) 1)).bind fun t494 => (if t494 = true then (some false) else (if t488 = true then ((tcp_Sane.f (Go.bits .or .u8 a0 16)).bind fun t495 => (some t495)) else (some true))))))) = some r := H
        have A9 := Aside0.mk A90
        clear A90
        by_cases c10 : t492 = true
        · subst c10
          have H1 : (some false) = some r := by rw [if_pos rfl] at H; exact H
          clear H
          have H := H1
          clear H1
          obtain rfl := Option.some.inj H
          go_enter Try.func9, Try.ntmps9
          go_wp2_with (first | ((with_reducible refine gate_callee (f := 36) rfl ?_); refine goesL_ (some 5) rfl rfl Try.func36 (by kernel_rfl) rfl #[.int .u8 a0] rfl (by (try simp only [List.map_toArray, List.map_cons, List.map_nil]); first | done | rfl | (simp only [List.length_drop, List.length_take]; rfl)) ?_; (with_reducible refine (tcp_Sane.calls a0 t488 _ A2.out).mono ?_); rintro e w' ⟨rfl, ⟨nd, rfl⟩⟩; refine ⟨_, rfl, ?_⟩) | ((with_reducible refine gate_callee (f := 33) rfl ?_); refine goesL_ (some 6) rfl rfl Try.func33 (by kernel_rfl) rfl #[] rfl (by (try simp only [List.map_toArray, List.map_cons, List.map_nil]); first | done | rfl | (simp only [List.length_drop, List.length_take]; rfl)) ?_; (with_reducible refine (mantletlaw05_awake.calls k  true _ A3.out).mono ?_); rintro e w11 ⟨rfl, hb⟩; refine ⟨_, rfl, ?_⟩; have n0_ := Aside0.mk (below_step (by repeat (first | (with_reducible first | exact HB.out | apply below_alloc | apply pw_below_drewN | apply below_drew1) | exact HB.out)) hb); clear HB; have HB := n0_; clear n0_; (try clear hb); (try clear hb2); (try clear hk); (try clear hi)) | ((with_reducible refine gate_dst (N := 10) rfl ?_); refine gate_guard (by first | rfl | (go_simp; done)) ?_; dsimp only; (with_reducible refine gate_callee (f := 36) rfl ?_); refine goesL_ (some 10) rfl rfl Try.func36 (by kernel_rfl) rfl #[.int .u8 (Go.bits .xor .u8 a0 8)] rfl (by (try simp only [List.map_toArray, List.map_cons, List.map_nil]); first | done | rfl | (simp only [List.length_drop, List.length_take]; rfl)) ?_; (with_reducible refine (tcp_Sane.calls (Go.bits .xor .u8 a0 8) t490 _ A5.out).mono ?_); rintro e w' ⟨rfl, ⟨nd, rfl⟩⟩; refine ⟨_, rfl, ?_⟩) | ((with_reducible refine gate_dst (N := 17) rfl ?_); refine gate_guard (by first | rfl | (go_simp; done)) ?_; dsimp only; (with_reducible refine gate_callee (f := 36) rfl ?_); refine goesL_ (some 17) rfl rfl Try.func36 (by kernel_rfl) rfl #[.int .u8 (Go.bits .xor .u8 a0 32)] rfl (by (try simp only [List.map_toArray, List.map_cons, List.map_nil]); first | done | rfl | (simp only [List.length_drop, List.length_take]; rfl)) ?_; (with_reducible refine (tcp_Sane.calls (Go.bits .xor .u8 a0 32) t491 _ A7.out).mono ?_); rintro e w' ⟨rfl, ⟨nd, rfl⟩⟩; refine ⟨_, rfl, ?_⟩) | ((with_reducible refine gate_dst (N := 25) rfl ?_); refine gate_guard (by first | rfl | (go_simp; done)) ?_; dsimp only; (with_reducible refine gate_callee (f := 36) rfl ?_); refine goesL_ (some 25) rfl rfl Try.func36 (by kernel_rfl) rfl #[.int .u8 (Go.bits .or .u8 (Go.bits .or .u8 a0 1) 2)] rfl (by (try simp only [List.map_toArray, List.map_cons, List.map_nil]); first | done | rfl | (simp only [List.length_drop, List.length_take]; rfl)) ?_; (with_reducible refine (tcp_Sane.calls (Go.bits .or .u8 (Go.bits .or .u8 a0 1) 2) true _ A9.out).mono ?_); rintro e w' ⟨rfl, ⟨nd, rfl⟩⟩; refine ⟨_, rfl, ?_⟩))
          go_ret
          exact ⟨by first | rfl | (simp [errW_none, errW_some] <;> rfl) | (simp [*, errW_none, errW_some] <;> rfl), by repeat (first | (with_reducible first | exact HB.out | apply below_alloc | apply pw_below_drewN | apply below_drew1) | exact HB.out)⟩
        · replace c10 := Bool.eq_false_iff.mpr c10
          subst c10
          have H1 : ((tcp_Sane.f (Go.bits .or .u8 (Go.bits .or .u8 a0 4) 2)).bind fun t493 => (if t493 = true then (some false) else ((tcp_Sane.f (Go.bits .or .u8 (Go.bits .or .u8 a0 4) 1)).bind fun t494 => (if t494 = true then (some false) else (if t488 = true then ((tcp_Sane.f (Go.bits .or .u8 a0 16)).bind fun t495 => (some t495)) else (some true)))))) = some r := by rw [if_neg (show ¬ (false = true) by decide)] at H; exact H
          clear H
          have H := H1
          clear H1
          replace H := Option.bind_eq_some_iff.mp H
          obtain ⟨t493, A120, H⟩ := H
          replace H : (if t493 = true then (some false) else ((tcp_Sane.f (Go.bits .or .u8 (Go.bits .or .u8 a0 4) 1)).bind fun t494 => (if t494 = true then (some false) else (if t488 = true then ((tcp_Sane.f (Go.bits .or .u8 a0 16)).bind fun t495 => (some t495)) else (some true))))) = some r := H
          have A12 := Aside0.mk A120
          clear A120
          by_cases c13 : t493 = true
          · subst c13
            have H1 : (some false) = some r := by rw [if_pos rfl] at H; exact H
            clear H
            have H := H1
            clear H1
            obtain rfl := Option.some.inj H
            go_enter Try.func9, Try.ntmps9
            go_wp2_with (first | ((with_reducible refine gate_callee (f := 36) rfl ?_); refine goesL_ (some 5) rfl rfl Try.func36 (by kernel_rfl) rfl #[.int .u8 a0] rfl (by (try simp only [List.map_toArray, List.map_cons, List.map_nil]); first | done | rfl | (simp only [List.length_drop, List.length_take]; rfl)) ?_; (with_reducible refine (tcp_Sane.calls a0 t488 _ A2.out).mono ?_); rintro e w' ⟨rfl, ⟨nd, rfl⟩⟩; refine ⟨_, rfl, ?_⟩) | ((with_reducible refine gate_callee (f := 33) rfl ?_); refine goesL_ (some 6) rfl rfl Try.func33 (by kernel_rfl) rfl #[] rfl (by (try simp only [List.map_toArray, List.map_cons, List.map_nil]); first | done | rfl | (simp only [List.length_drop, List.length_take]; rfl)) ?_; (with_reducible refine (mantletlaw05_awake.calls k  true _ A3.out).mono ?_); rintro e w14 ⟨rfl, hb⟩; refine ⟨_, rfl, ?_⟩; have n0_ := Aside0.mk (below_step (by repeat (first | (with_reducible first | exact HB.out | apply below_alloc | apply pw_below_drewN | apply below_drew1) | exact HB.out)) hb); clear HB; have HB := n0_; clear n0_; (try clear hb); (try clear hb2); (try clear hk); (try clear hi)) | ((with_reducible refine gate_dst (N := 10) rfl ?_); refine gate_guard (by first | rfl | (go_simp; done)) ?_; dsimp only; (with_reducible refine gate_callee (f := 36) rfl ?_); refine goesL_ (some 10) rfl rfl Try.func36 (by kernel_rfl) rfl #[.int .u8 (Go.bits .xor .u8 a0 8)] rfl (by (try simp only [List.map_toArray, List.map_cons, List.map_nil]); first | done | rfl | (simp only [List.length_drop, List.length_take]; rfl)) ?_; (with_reducible refine (tcp_Sane.calls (Go.bits .xor .u8 a0 8) t490 _ A5.out).mono ?_); rintro e w' ⟨rfl, ⟨nd, rfl⟩⟩; refine ⟨_, rfl, ?_⟩) | ((with_reducible refine gate_dst (N := 17) rfl ?_); refine gate_guard (by first | rfl | (go_simp; done)) ?_; dsimp only; (with_reducible refine gate_callee (f := 36) rfl ?_); refine goesL_ (some 17) rfl rfl Try.func36 (by kernel_rfl) rfl #[.int .u8 (Go.bits .xor .u8 a0 32)] rfl (by (try simp only [List.map_toArray, List.map_cons, List.map_nil]); first | done | rfl | (simp only [List.length_drop, List.length_take]; rfl)) ?_; (with_reducible refine (tcp_Sane.calls (Go.bits .xor .u8 a0 32) t491 _ A7.out).mono ?_); rintro e w' ⟨rfl, ⟨nd, rfl⟩⟩; refine ⟨_, rfl, ?_⟩) | ((with_reducible refine gate_dst (N := 25) rfl ?_); refine gate_guard (by first | rfl | (go_simp; done)) ?_; dsimp only; (with_reducible refine gate_callee (f := 36) rfl ?_); refine goesL_ (some 25) rfl rfl Try.func36 (by kernel_rfl) rfl #[.int .u8 (Go.bits .or .u8 (Go.bits .or .u8 a0 1) 2)] rfl (by (try simp only [List.map_toArray, List.map_cons, List.map_nil]); first | done | rfl | (simp only [List.length_drop, List.length_take]; rfl)) ?_; (with_reducible refine (tcp_Sane.calls (Go.bits .or .u8 (Go.bits .or .u8 a0 1) 2) false _ A9.out).mono ?_); rintro e w' ⟨rfl, ⟨nd, rfl⟩⟩; refine ⟨_, rfl, ?_⟩) | ((with_reducible refine gate_dst (N := 32) rfl ?_); refine gate_guard (by first | rfl | (go_simp; done)) ?_; dsimp only; (with_reducible refine gate_callee (f := 36) rfl ?_); refine goesL_ (some 32) rfl rfl Try.func36 (by kernel_rfl) rfl #[.int .u8 (Go.bits .or .u8 (Go.bits .or .u8 a0 4) 2)] rfl (by (try simp only [List.map_toArray, List.map_cons, List.map_nil]); first | done | rfl | (simp only [List.length_drop, List.length_take]; rfl)) ?_; (with_reducible refine (tcp_Sane.calls (Go.bits .or .u8 (Go.bits .or .u8 a0 4) 2) true _ A12.out).mono ?_); rintro e w' ⟨rfl, ⟨nd, rfl⟩⟩; refine ⟨_, rfl, ?_⟩))
            go_ret
            exact ⟨by first | rfl | (simp [errW_none, errW_some] <;> rfl) | (simp [*, errW_none, errW_some] <;> rfl), by repeat (first | (with_reducible first | exact HB.out | apply below_alloc | apply pw_below_drewN | apply below_drew1) | exact HB.out)⟩
          · replace c13 := Bool.eq_false_iff.mpr c13
            subst c13
            have H1 : ((tcp_Sane.f (Go.bits .or .u8 (Go.bits .or .u8 a0 4) 1)).bind fun t494 => (if t494 = true then (some false) else (if t488 = true then ((tcp_Sane.f (Go.bits .or .u8 a0 16)).bind fun t495 => (some t495)) else (some true)))) = some r := by rw [if_neg (show ¬ (false = true) by decide)] at H; exact H
            clear H
            have H := H1
            clear H1
            replace H := Option.bind_eq_some_iff.mp H
            obtain ⟨t494, A150, H⟩ := H
            replace H : (if t494 = true then (some false) else (if t488 = true then ((tcp_Sane.f (Go.bits .or .u8 a0 16)).bind fun t495 => (some t495)) else (some true))) = some r := H
            have A15 := Aside0.mk A150
            clear A150
            by_cases c16 : t494 = true
            · subst c16
              have H1 : (some false) = some r := by rw [if_pos rfl] at H; exact H
              clear H
              have H := H1
              clear H1
              obtain rfl := Option.some.inj H
              go_enter Try.func9, Try.ntmps9
              go_wp2_with (first | ((with_reducible refine gate_callee (f := 36) rfl ?_); refine goesL_ (some 5) rfl rfl Try.func36 (by kernel_rfl) rfl #[.int .u8 a0] rfl (by (try simp only [List.map_toArray, List.map_cons, List.map_nil]); first | done | rfl | (simp only [List.length_drop, List.length_take]; rfl)) ?_; (with_reducible refine (tcp_Sane.calls a0 t488 _ A2.out).mono ?_); rintro e w' ⟨rfl, ⟨nd, rfl⟩⟩; refine ⟨_, rfl, ?_⟩) | ((with_reducible refine gate_callee (f := 33) rfl ?_); refine goesL_ (some 6) rfl rfl Try.func33 (by kernel_rfl) rfl #[] rfl (by (try simp only [List.map_toArray, List.map_cons, List.map_nil]); first | done | rfl | (simp only [List.length_drop, List.length_take]; rfl)) ?_; (with_reducible refine (mantletlaw05_awake.calls k  true _ A3.out).mono ?_); rintro e w17 ⟨rfl, hb⟩; refine ⟨_, rfl, ?_⟩; have n0_ := Aside0.mk (below_step (by repeat (first | (with_reducible first | exact HB.out | apply below_alloc | apply pw_below_drewN | apply below_drew1) | exact HB.out)) hb); clear HB; have HB := n0_; clear n0_; (try clear hb); (try clear hb2); (try clear hk); (try clear hi)) | ((with_reducible refine gate_dst (N := 10) rfl ?_); refine gate_guard (by first | rfl | (go_simp; done)) ?_; dsimp only; (with_reducible refine gate_callee (f := 36) rfl ?_); refine goesL_ (some 10) rfl rfl Try.func36 (by kernel_rfl) rfl #[.int .u8 (Go.bits .xor .u8 a0 8)] rfl (by (try simp only [List.map_toArray, List.map_cons, List.map_nil]); first | done | rfl | (simp only [List.length_drop, List.length_take]; rfl)) ?_; (with_reducible refine (tcp_Sane.calls (Go.bits .xor .u8 a0 8) t490 _ A5.out).mono ?_); rintro e w' ⟨rfl, ⟨nd, rfl⟩⟩; refine ⟨_, rfl, ?_⟩) | ((with_reducible refine gate_dst (N := 17) rfl ?_); refine gate_guard (by first | rfl | (go_simp; done)) ?_; dsimp only; (with_reducible refine gate_callee (f := 36) rfl ?_); refine goesL_ (some 17) rfl rfl Try.func36 (by kernel_rfl) rfl #[.int .u8 (Go.bits .xor .u8 a0 32)] rfl (by (try simp only [List.map_toArray, List.map_cons, List.map_nil]); first | done | rfl | (simp only [List.length_drop, List.length_take]; rfl)) ?_; (with_reducible refine (tcp_Sane.calls (Go.bits .xor .u8 a0 32) t491 _ A7.out).mono ?_); rintro e w' ⟨rfl, ⟨nd, rfl⟩⟩; refine ⟨_, rfl, ?_⟩) | ((with_reducible refine gate_dst (N := 25) rfl ?_); refine gate_guard (by first | rfl | (go_simp; done)) ?_; dsimp only; (with_reducible refine gate_callee (f := 36) rfl ?_); refine goesL_ (some 25) rfl rfl Try.func36 (by kernel_rfl) rfl #[.int .u8 (Go.bits .or .u8 (Go.bits .or .u8 a0 1) 2)] rfl (by (try simp only [List.map_toArray, List.map_cons, List.map_nil]); first | done | rfl | (simp only [List.length_drop, List.length_take]; rfl)) ?_; (with_reducible refine (tcp_Sane.calls (Go.bits .or .u8 (Go.bits .or .u8 a0 1) 2) false _ A9.out).mono ?_); rintro e w' ⟨rfl, ⟨nd, rfl⟩⟩; refine ⟨_, rfl, ?_⟩) | ((with_reducible refine gate_dst (N := 32) rfl ?_); refine gate_guard (by first | rfl | (go_simp; done)) ?_; dsimp only; (with_reducible refine gate_callee (f := 36) rfl ?_); refine goesL_ (some 32) rfl rfl Try.func36 (by kernel_rfl) rfl #[.int .u8 (Go.bits .or .u8 (Go.bits .or .u8 a0 4) 2)] rfl (by (try simp only [List.map_toArray, List.map_cons, List.map_nil]); first | done | rfl | (simp only [List.length_drop, List.length_take]; rfl)) ?_; (with_reducible refine (tcp_Sane.calls (Go.bits .or .u8 (Go.bits .or .u8 a0 4) 2) false _ A12.out).mono ?_); rintro e w' ⟨rfl, ⟨nd, rfl⟩⟩; refine ⟨_, rfl, ?_⟩) | ((with_reducible refine gate_dst (N := 39) rfl ?_); refine gate_guard (by first | rfl | (go_simp; done)) ?_; dsimp only; (with_reducible refine gate_callee (f := 36) rfl ?_); refine goesL_ (some 39) rfl rfl Try.func36 (by kernel_rfl) rfl #[.int .u8 (Go.bits .or .u8 (Go.bits .or .u8 a0 4) 1)] rfl (by (try simp only [List.map_toArray, List.map_cons, List.map_nil]); first | done | rfl | (simp only [List.length_drop, List.length_take]; rfl)) ?_; (with_reducible refine (tcp_Sane.calls (Go.bits .or .u8 (Go.bits .or .u8 a0 4) 1) true _ A15.out).mono ?_); rintro e w' ⟨rfl, ⟨nd, rfl⟩⟩; refine ⟨_, rfl, ?_⟩))
              go_ret
              exact ⟨by first | rfl | (simp [errW_none, errW_some] <;> rfl) | (simp [*, errW_none, errW_some] <;> rfl), by repeat (first | (with_reducible first | exact HB.out | apply below_alloc | apply pw_below_drewN | apply below_drew1) | exact HB.out)⟩
            · replace c16 := Bool.eq_false_iff.mpr c16
              subst c16
              have H1 : (if t488 = true then ((tcp_Sane.f (Go.bits .or .u8 a0 16)).bind fun t495 => (some t495)) else (some true)) = some r := by rw [if_neg (show ¬ (false = true) by decide)] at H; exact H
              clear H
              have H := H1
              clear H1
              by_cases c18 : t488 = true
              · subst c18
                have H1 : ((tcp_Sane.f (Go.bits .or .u8 a0 16)).bind fun t495 => (some t495)) = some r := by rw [if_pos rfl] at H; exact H
                clear H
                have H := H1
                clear H1
                replace H := Option.bind_eq_some_iff.mp H
                obtain ⟨t495, A190, H⟩ := H
                replace H : (some t495) = some r := H
                have A19 := Aside0.mk A190
                clear A190
                obtain rfl := Option.some.inj H
                go_enter Try.func9, Try.ntmps9
                go_wp2_with (first | ((with_reducible refine gate_callee (f := 36) rfl ?_); refine goesL_ (some 5) rfl rfl Try.func36 (by kernel_rfl) rfl #[.int .u8 a0] rfl (by (try simp only [List.map_toArray, List.map_cons, List.map_nil]); first | done | rfl | (simp only [List.length_drop, List.length_take]; rfl)) ?_; (with_reducible refine (tcp_Sane.calls a0 true _ A2.out).mono ?_); rintro e w' ⟨rfl, ⟨nd, rfl⟩⟩; refine ⟨_, rfl, ?_⟩) | ((with_reducible refine gate_callee (f := 33) rfl ?_); refine goesL_ (some 6) rfl rfl Try.func33 (by kernel_rfl) rfl #[] rfl (by (try simp only [List.map_toArray, List.map_cons, List.map_nil]); first | done | rfl | (simp only [List.length_drop, List.length_take]; rfl)) ?_; (with_reducible refine (mantletlaw05_awake.calls k  true _ A3.out).mono ?_); rintro e w20 ⟨rfl, hb⟩; refine ⟨_, rfl, ?_⟩; have n0_ := Aside0.mk (below_step (by repeat (first | (with_reducible first | exact HB.out | apply below_alloc | apply pw_below_drewN | apply below_drew1) | exact HB.out)) hb); clear HB; have HB := n0_; clear n0_; (try clear hb); (try clear hb2); (try clear hk); (try clear hi)) | ((with_reducible refine gate_dst (N := 10) rfl ?_); refine gate_guard (by first | rfl | (go_simp; done)) ?_; dsimp only; (with_reducible refine gate_callee (f := 36) rfl ?_); refine goesL_ (some 10) rfl rfl Try.func36 (by kernel_rfl) rfl #[.int .u8 (Go.bits .xor .u8 a0 8)] rfl (by (try simp only [List.map_toArray, List.map_cons, List.map_nil]); first | done | rfl | (simp only [List.length_drop, List.length_take]; rfl)) ?_; (with_reducible refine (tcp_Sane.calls (Go.bits .xor .u8 a0 8) t490 _ A5.out).mono ?_); rintro e w' ⟨rfl, ⟨nd, rfl⟩⟩; refine ⟨_, rfl, ?_⟩) | ((with_reducible refine gate_dst (N := 17) rfl ?_); refine gate_guard (by first | rfl | (go_simp; done)) ?_; dsimp only; (with_reducible refine gate_callee (f := 36) rfl ?_); refine goesL_ (some 17) rfl rfl Try.func36 (by kernel_rfl) rfl #[.int .u8 (Go.bits .xor .u8 a0 32)] rfl (by (try simp only [List.map_toArray, List.map_cons, List.map_nil]); first | done | rfl | (simp only [List.length_drop, List.length_take]; rfl)) ?_; (with_reducible refine (tcp_Sane.calls (Go.bits .xor .u8 a0 32) t491 _ A7.out).mono ?_); rintro e w' ⟨rfl, ⟨nd, rfl⟩⟩; refine ⟨_, rfl, ?_⟩) | ((with_reducible refine gate_dst (N := 25) rfl ?_); refine gate_guard (by first | rfl | (go_simp; done)) ?_; dsimp only; (with_reducible refine gate_callee (f := 36) rfl ?_); refine goesL_ (some 25) rfl rfl Try.func36 (by kernel_rfl) rfl #[.int .u8 (Go.bits .or .u8 (Go.bits .or .u8 a0 1) 2)] rfl (by (try simp only [List.map_toArray, List.map_cons, List.map_nil]); first | done | rfl | (simp only [List.length_drop, List.length_take]; rfl)) ?_; (with_reducible refine (tcp_Sane.calls (Go.bits .or .u8 (Go.bits .or .u8 a0 1) 2) false _ A9.out).mono ?_); rintro e w' ⟨rfl, ⟨nd, rfl⟩⟩; refine ⟨_, rfl, ?_⟩) | ((with_reducible refine gate_dst (N := 32) rfl ?_); refine gate_guard (by first | rfl | (go_simp; done)) ?_; dsimp only; (with_reducible refine gate_callee (f := 36) rfl ?_); refine goesL_ (some 32) rfl rfl Try.func36 (by kernel_rfl) rfl #[.int .u8 (Go.bits .or .u8 (Go.bits .or .u8 a0 4) 2)] rfl (by (try simp only [List.map_toArray, List.map_cons, List.map_nil]); first | done | rfl | (simp only [List.length_drop, List.length_take]; rfl)) ?_; (with_reducible refine (tcp_Sane.calls (Go.bits .or .u8 (Go.bits .or .u8 a0 4) 2) false _ A12.out).mono ?_); rintro e w' ⟨rfl, ⟨nd, rfl⟩⟩; refine ⟨_, rfl, ?_⟩) | ((with_reducible refine gate_dst (N := 39) rfl ?_); refine gate_guard (by first | rfl | (go_simp; done)) ?_; dsimp only; (with_reducible refine gate_callee (f := 36) rfl ?_); refine goesL_ (some 39) rfl rfl Try.func36 (by kernel_rfl) rfl #[.int .u8 (Go.bits .or .u8 (Go.bits .or .u8 a0 4) 1)] rfl (by (try simp only [List.map_toArray, List.map_cons, List.map_nil]); first | done | rfl | (simp only [List.length_drop, List.length_take]; rfl)) ?_; (with_reducible refine (tcp_Sane.calls (Go.bits .or .u8 (Go.bits .or .u8 a0 4) 1) false _ A15.out).mono ?_); rintro e w' ⟨rfl, ⟨nd, rfl⟩⟩; refine ⟨_, rfl, ?_⟩) | ((with_reducible refine gate_dst (N := 48) rfl ?_); refine gate_guard (by first | rfl | (go_simp; done)) ?_; dsimp only; (with_reducible refine gate_callee (f := 36) rfl ?_); refine goesL_ (some 48) rfl rfl Try.func36 (by kernel_rfl) rfl #[.int .u8 (Go.bits .or .u8 a0 16)] rfl (by (try simp only [List.map_toArray, List.map_cons, List.map_nil]); first | done | rfl | (simp only [List.length_drop, List.length_take]; rfl)) ?_; (with_reducible refine (tcp_Sane.calls (Go.bits .or .u8 a0 16) t495 _ A19.out).mono ?_); rintro e w' ⟨rfl, ⟨nd, rfl⟩⟩; refine ⟨_, rfl, ?_⟩))
                go_ret
                exact ⟨by first | rfl | (simp [errW_none, errW_some] <;> rfl) | (simp [*, errW_none, errW_some] <;> rfl), by repeat (first | (with_reducible first | exact HB.out | apply below_alloc | apply pw_below_drewN | apply below_drew1) | exact HB.out)⟩
              · replace c18 := Bool.eq_false_iff.mpr c18
                subst c18
                have H1 : (some true) = some r := by rw [if_neg (show ¬ (false = true) by decide)] at H; exact H
                clear H
                have H := H1
                clear H1
                obtain rfl := Option.some.inj H
                go_enter Try.func9, Try.ntmps9
                go_wp2_with (first | ((with_reducible refine gate_callee (f := 36) rfl ?_); refine goesL_ (some 5) rfl rfl Try.func36 (by kernel_rfl) rfl #[.int .u8 a0] rfl (by (try simp only [List.map_toArray, List.map_cons, List.map_nil]); first | done | rfl | (simp only [List.length_drop, List.length_take]; rfl)) ?_; (with_reducible refine (tcp_Sane.calls a0 false _ A2.out).mono ?_); rintro e w' ⟨rfl, ⟨nd, rfl⟩⟩; refine ⟨_, rfl, ?_⟩) | ((with_reducible refine gate_callee (f := 33) rfl ?_); refine goesL_ (some 6) rfl rfl Try.func33 (by kernel_rfl) rfl #[] rfl (by (try simp only [List.map_toArray, List.map_cons, List.map_nil]); first | done | rfl | (simp only [List.length_drop, List.length_take]; rfl)) ?_; (with_reducible refine (mantletlaw05_awake.calls k  true _ A3.out).mono ?_); rintro e w21 ⟨rfl, hb⟩; refine ⟨_, rfl, ?_⟩; have n0_ := Aside0.mk (below_step (by repeat (first | (with_reducible first | exact HB.out | apply below_alloc | apply pw_below_drewN | apply below_drew1) | exact HB.out)) hb); clear HB; have HB := n0_; clear n0_; (try clear hb); (try clear hb2); (try clear hk); (try clear hi)) | ((with_reducible refine gate_dst (N := 10) rfl ?_); refine gate_guard (by first | rfl | (go_simp; done)) ?_; dsimp only; (with_reducible refine gate_callee (f := 36) rfl ?_); refine goesL_ (some 10) rfl rfl Try.func36 (by kernel_rfl) rfl #[.int .u8 (Go.bits .xor .u8 a0 8)] rfl (by (try simp only [List.map_toArray, List.map_cons, List.map_nil]); first | done | rfl | (simp only [List.length_drop, List.length_take]; rfl)) ?_; (with_reducible refine (tcp_Sane.calls (Go.bits .xor .u8 a0 8) t490 _ A5.out).mono ?_); rintro e w' ⟨rfl, ⟨nd, rfl⟩⟩; refine ⟨_, rfl, ?_⟩) | ((with_reducible refine gate_dst (N := 17) rfl ?_); refine gate_guard (by first | rfl | (go_simp; done)) ?_; dsimp only; (with_reducible refine gate_callee (f := 36) rfl ?_); refine goesL_ (some 17) rfl rfl Try.func36 (by kernel_rfl) rfl #[.int .u8 (Go.bits .xor .u8 a0 32)] rfl (by (try simp only [List.map_toArray, List.map_cons, List.map_nil]); first | done | rfl | (simp only [List.length_drop, List.length_take]; rfl)) ?_; (with_reducible refine (tcp_Sane.calls (Go.bits .xor .u8 a0 32) t491 _ A7.out).mono ?_); rintro e w' ⟨rfl, ⟨nd, rfl⟩⟩; refine ⟨_, rfl, ?_⟩) | ((with_reducible refine gate_dst (N := 25) rfl ?_); refine gate_guard (by first | rfl | (go_simp; done)) ?_; dsimp only; (with_reducible refine gate_callee (f := 36) rfl ?_); refine goesL_ (some 25) rfl rfl Try.func36 (by kernel_rfl) rfl #[.int .u8 (Go.bits .or .u8 (Go.bits .or .u8 a0 1) 2)] rfl (by (try simp only [List.map_toArray, List.map_cons, List.map_nil]); first | done | rfl | (simp only [List.length_drop, List.length_take]; rfl)) ?_; (with_reducible refine (tcp_Sane.calls (Go.bits .or .u8 (Go.bits .or .u8 a0 1) 2) false _ A9.out).mono ?_); rintro e w' ⟨rfl, ⟨nd, rfl⟩⟩; refine ⟨_, rfl, ?_⟩) | ((with_reducible refine gate_dst (N := 32) rfl ?_); refine gate_guard (by first | rfl | (go_simp; done)) ?_; dsimp only; (with_reducible refine gate_callee (f := 36) rfl ?_); refine goesL_ (some 32) rfl rfl Try.func36 (by kernel_rfl) rfl #[.int .u8 (Go.bits .or .u8 (Go.bits .or .u8 a0 4) 2)] rfl (by (try simp only [List.map_toArray, List.map_cons, List.map_nil]); first | done | rfl | (simp only [List.length_drop, List.length_take]; rfl)) ?_; (with_reducible refine (tcp_Sane.calls (Go.bits .or .u8 (Go.bits .or .u8 a0 4) 2) false _ A12.out).mono ?_); rintro e w' ⟨rfl, ⟨nd, rfl⟩⟩; refine ⟨_, rfl, ?_⟩) | ((with_reducible refine gate_dst (N := 39) rfl ?_); refine gate_guard (by first | rfl | (go_simp; done)) ?_; dsimp only; (with_reducible refine gate_callee (f := 36) rfl ?_); refine goesL_ (some 39) rfl rfl Try.func36 (by kernel_rfl) rfl #[.int .u8 (Go.bits .or .u8 (Go.bits .or .u8 a0 4) 1)] rfl (by (try simp only [List.map_toArray, List.map_cons, List.map_nil]); first | done | rfl | (simp only [List.length_drop, List.length_take]; rfl)) ?_; (with_reducible refine (tcp_Sane.calls (Go.bits .or .u8 (Go.bits .or .u8 a0 4) 1) false _ A15.out).mono ?_); rintro e w' ⟨rfl, ⟨nd, rfl⟩⟩; refine ⟨_, rfl, ?_⟩))
                go_ret
                exact ⟨by first | rfl | (simp [errW_none, errW_some] <;> rfl) | (simp [*, errW_none, errW_some] <;> rfl), by repeat (first | (with_reducible first | exact HB.out | apply below_alloc | apply pw_below_drewN | apply below_drew1) | exact HB.out)⟩
      · rw [if_neg c8] at H
        have c8b0 : (t491 == t488) = false := by simpa using c8
        (try (have c8b1 : decide (t491 = t488) = false := by simpa using c8))
        (try (have c8b2 : (t491 == t488) = false := by simpa using c8))
        (try (have c8b3 : ¬ (t491 = t488) := by simpa using c8))
        clear c8
        obtain rfl := Option.some.inj H
        go_enter Try.func9, Try.ntmps9
        go_wp2_with (first | ((with_reducible refine gate_callee (f := 36) rfl ?_); refine goesL_ (some 5) rfl rfl Try.func36 (by kernel_rfl) rfl #[.int .u8 a0] rfl (by (try simp only [List.map_toArray, List.map_cons, List.map_nil]); first | done | rfl | (simp only [List.length_drop, List.length_take]; rfl)) ?_; (with_reducible refine (tcp_Sane.calls a0 t488 _ A2.out).mono ?_); rintro e w' ⟨rfl, ⟨nd, rfl⟩⟩; refine ⟨_, rfl, ?_⟩) | ((with_reducible refine gate_callee (f := 33) rfl ?_); refine goesL_ (some 6) rfl rfl Try.func33 (by kernel_rfl) rfl #[] rfl (by (try simp only [List.map_toArray, List.map_cons, List.map_nil]); first | done | rfl | (simp only [List.length_drop, List.length_take]; rfl)) ?_; (with_reducible refine (mantletlaw05_awake.calls k  true _ A3.out).mono ?_); rintro e w22 ⟨rfl, hb⟩; refine ⟨_, rfl, ?_⟩; have n0_ := Aside0.mk (below_step (by repeat (first | (with_reducible first | exact HB.out | apply below_alloc | apply pw_below_drewN | apply below_drew1) | exact HB.out)) hb); clear HB; have HB := n0_; clear n0_; (try clear hb); (try clear hb2); (try clear hk); (try clear hi)) | ((with_reducible refine gate_dst (N := 10) rfl ?_); refine gate_guard (by first | rfl | (go_simp; done)) ?_; dsimp only; (with_reducible refine gate_callee (f := 36) rfl ?_); refine goesL_ (some 10) rfl rfl Try.func36 (by kernel_rfl) rfl #[.int .u8 (Go.bits .xor .u8 a0 8)] rfl (by (try simp only [List.map_toArray, List.map_cons, List.map_nil]); first | done | rfl | (simp only [List.length_drop, List.length_take]; rfl)) ?_; (with_reducible refine (tcp_Sane.calls (Go.bits .xor .u8 a0 8) t490 _ A5.out).mono ?_); rintro e w' ⟨rfl, ⟨nd, rfl⟩⟩; refine ⟨_, rfl, ?_⟩) | ((with_reducible refine gate_dst (N := 17) rfl ?_); refine gate_guard (by first | rfl | (go_simp; done)) ?_; dsimp only; (with_reducible refine gate_callee (f := 36) rfl ?_); refine goesL_ (some 17) rfl rfl Try.func36 (by kernel_rfl) rfl #[.int .u8 (Go.bits .xor .u8 a0 32)] rfl (by (try simp only [List.map_toArray, List.map_cons, List.map_nil]); first | done | rfl | (simp only [List.length_drop, List.length_take]; rfl)) ?_; (with_reducible refine (tcp_Sane.calls (Go.bits .xor .u8 a0 32) t491 _ A7.out).mono ?_); rintro e w' ⟨rfl, ⟨nd, rfl⟩⟩; refine ⟨_, rfl, ?_⟩))
        go_ret
        exact ⟨by first | rfl | (simp [errW_none, errW_some] <;> rfl) | (simp [*, errW_none, errW_some] <;> rfl), by repeat (first | (with_reducible first | exact HB.out | apply below_alloc | apply pw_below_drewN | apply below_drew1) | exact HB.out)⟩
    · rw [if_neg c6] at H
      have c6b0 : (t490 == t488) = false := by simpa using c6
      (try (have c6b1 : decide (t490 = t488) = false := by simpa using c6))
      (try (have c6b2 : (t490 == t488) = false := by simpa using c6))
      (try (have c6b3 : ¬ (t490 = t488) := by simpa using c6))
      clear c6
      obtain rfl := Option.some.inj H
      go_enter Try.func9, Try.ntmps9
      go_wp2_with (first | ((with_reducible refine gate_callee (f := 36) rfl ?_); refine goesL_ (some 5) rfl rfl Try.func36 (by kernel_rfl) rfl #[.int .u8 a0] rfl (by (try simp only [List.map_toArray, List.map_cons, List.map_nil]); first | done | rfl | (simp only [List.length_drop, List.length_take]; rfl)) ?_; (with_reducible refine (tcp_Sane.calls a0 t488 _ A2.out).mono ?_); rintro e w' ⟨rfl, ⟨nd, rfl⟩⟩; refine ⟨_, rfl, ?_⟩) | ((with_reducible refine gate_callee (f := 33) rfl ?_); refine goesL_ (some 6) rfl rfl Try.func33 (by kernel_rfl) rfl #[] rfl (by (try simp only [List.map_toArray, List.map_cons, List.map_nil]); first | done | rfl | (simp only [List.length_drop, List.length_take]; rfl)) ?_; (with_reducible refine (mantletlaw05_awake.calls k  true _ A3.out).mono ?_); rintro e w23 ⟨rfl, hb⟩; refine ⟨_, rfl, ?_⟩; have n0_ := Aside0.mk (below_step (by repeat (first | (with_reducible first | exact HB.out | apply below_alloc | apply pw_below_drewN | apply below_drew1) | exact HB.out)) hb); clear HB; have HB := n0_; clear n0_; (try clear hb); (try clear hb2); (try clear hk); (try clear hi)) | ((with_reducible refine gate_dst (N := 10) rfl ?_); refine gate_guard (by first | rfl | (go_simp; done)) ?_; dsimp only; (with_reducible refine gate_callee (f := 36) rfl ?_); refine goesL_ (some 10) rfl rfl Try.func36 (by kernel_rfl) rfl #[.int .u8 (Go.bits .xor .u8 a0 8)] rfl (by (try simp only [List.map_toArray, List.map_cons, List.map_nil]); first | done | rfl | (simp only [List.length_drop, List.length_take]; rfl)) ?_; (with_reducible refine (tcp_Sane.calls (Go.bits .xor .u8 a0 8) t490 _ A5.out).mono ?_); rintro e w' ⟨rfl, ⟨nd, rfl⟩⟩; refine ⟨_, rfl, ?_⟩))
      go_ret
      exact ⟨by first | rfl | (simp [errW_none, errW_some] <;> rfl) | (simp [*, errW_none, errW_some] <;> rfl), by repeat (first | (with_reducible first | exact HB.out | apply below_alloc | apply pw_below_drewN | apply below_drew1) | exact HB.out)⟩
  · replace c4 := Bool.eq_false_iff.mpr c4
    subst c4
    have H1 : (some false) = some r := by rw [if_neg (show ¬ (false = true) by decide)] at H; exact H
    clear H
    have H := H1
    clear H1
    obtain rfl := Option.some.inj H
    go_enter Try.func9, Try.ntmps9
    go_wp2_with (first | ((with_reducible refine gate_callee (f := 36) rfl ?_); refine goesL_ (some 5) rfl rfl Try.func36 (by kernel_rfl) rfl #[.int .u8 a0] rfl (by (try simp only [List.map_toArray, List.map_cons, List.map_nil]); first | done | rfl | (simp only [List.length_drop, List.length_take]; rfl)) ?_; (with_reducible refine (tcp_Sane.calls a0 t488 _ A2.out).mono ?_); rintro e w' ⟨rfl, ⟨nd, rfl⟩⟩; refine ⟨_, rfl, ?_⟩) | ((with_reducible refine gate_callee (f := 33) rfl ?_); refine goesL_ (some 6) rfl rfl Try.func33 (by kernel_rfl) rfl #[] rfl (by (try simp only [List.map_toArray, List.map_cons, List.map_nil]); first | done | rfl | (simp only [List.length_drop, List.length_take]; rfl)) ?_; (with_reducible refine (mantletlaw05_awake.calls k  false _ A3.out).mono ?_); rintro e w24 ⟨rfl, hb⟩; refine ⟨_, rfl, ?_⟩; have n0_ := Aside0.mk (below_step (by repeat (first | (with_reducible first | exact HB.out | apply below_alloc | apply pw_below_drewN | apply below_drew1) | exact HB.out)) hb); clear HB; have HB := n0_; clear n0_; (try clear hb); (try clear hb2); (try clear hk); (try clear hi)))
    go_ret
    exact ⟨by first | rfl | (simp [errW_none, errW_some] <;> rfl) | (simp [*, errW_none, errW_some] <;> rfl), by repeat (first | (with_reducible first | exact HB.out | apply below_alloc | apply pw_below_drewN | apply below_drew1) | exact HB.out)⟩

/-- THE ONE PURE STATEMENT of mantletlaw05_TcpFlags: yours. -/
def mantletlaw05_TcpFlags.Pure : Prop := ∀ (a0 : Int), (Lit.int .u8 a0).wf = true → ∃ k, mantletlaw05_TcpFlags.f k a0 = some true
theorem mantletlaw05_TcpFlags.walk (P : mantletlaw05_TcpFlags.Pure) (a0 : Int) (w : World) (w0 : (Lit.int .u8 a0).wf = true) :
    Calls Try.prog 9 #[.int .u8 a0] w fun e w' => e = .returned (.bool true) ∧ Below w.heap.size w w' := by
  obtain ⟨k, h⟩ := P a0 w0
  refine (mantletlaw05_TcpFlags.calls k a0 true w h).mono ?_
  rintro e w' ⟨rfl, hd⟩
  exact ⟨rfl, hd⟩

end Go.Proofs.Ytofjgdbiieanjaa.All
