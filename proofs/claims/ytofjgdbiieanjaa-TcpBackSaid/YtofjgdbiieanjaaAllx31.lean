-- Made by a program of this workplace (wip/pr.sh) out of Lean's print of the translation; Lean checks it.
import Derived.Test.YtofjgdbiieanjaaAllx0
import Derived.Test.YtofjgdbiieanjaaAllx49
import Derived.Test.YtofjgdbiieanjaaAllx28
import Derived.Test.YtofjgdbiieanjaaAllx25
import Derived.Test.YtofjgdbiieanjaaAllx30
namespace Go.Proofs.Ytofjgdbiieanjaa.All
open Go.Proofs.Ytofjgdbiieanjaa.Ext
open Go.RowKit Go.Proofs.YtofjgdbiieanjaaW.PrintWords Go.Proofs.YtofjgdbiieanjaaW.PrintLast Go.Proofs.YtofjgdbiieanjaaW.PrintMore
attribute [local go_sem] max2_int min2_int max_two min_two max_three min_three max_four min_four   -- for this text's walks alone
set_option linter.unusedVariables false
set_option linter.unusedSimpArgs false

/-! ### mantletlaw05_awake: function 33 -/
def mantletlaw05_awake.f (k : Nat)  : Option (Bool) := (tcp_Build.f k 1 2 80 81 2 (([7] : List Int))).bind fun bt374 => ((tcp_Parse.f k 1 2 bt374.1).bind fun bt378 => ((tcp_Parse.f k 1 3 bt374.1).bind fun bt382 => (if (bt374.1.length : Int) = 21 then (if bt374.2 = 0 then (if bt378.1 = 80 then (if bt378.2.1 = 81 then (if bt378.2.2.1 = 2 then (if bt378.2.2.2 = 0 then (if bt382.2.2.2 = 7 then ((tcp_Sane.f 18).bind fun t386 => (if t386 = true then ((tcp_Sane.f 1).bind fun t387 => (if t387 = true then (some false) else ((tcp_Pseudo.f k 6 65536 2 5).bind fun t388 => (some (t388 == 14))))) else (some false))) else (some false)) else (some false)) else (some false)) else (some false)) else (some false)) else (some false)) else (some false))))
theorem mantletlaw05_awake.mono : ∀ k, LeO (mantletlaw05_awake.f k ) (mantletlaw05_awake.f (k + 1) ) := by
  intro  k
  unfold mantletlaw05_awake.f
  repeat' first
      | (with_reducible exact tcp_Build.mono _ _ _ _ _ _ _)
      | (with_reducible exact tcp_Parse.mono _ _ _ _)
      | (with_reducible exact tcp_Pseudo.mono _ _ _ _ _)
      | (with_reducible exact LeO.refl _)
      | (with_reducible exact LeO.none _)
      | (with_reducible refine LeO.ite ?_ ?_)
      | (with_reducible refine LeO.bind ?_ (fun _ => ?_))
      | exact tcp_Build.mono _ _ _ _ _ _ _
      | exact tcp_Parse.mono _ _ _ _
      | exact tcp_Pseudo.mono _ _ _ _ _
      | exact LeO.none _
      | refine LeO.ite ?_ ?_
      | refine LeO.bind ?_ (fun _ => ?_)
theorem mantletlaw05_awake.yes : mantletlaw05_awake.f 80 = some true := by kernel_rfl
theorem mantletlaw05_awake.from_ (k : Nat) : mantletlaw05_awake.f (k + 80) = some true := by
  induction k with
  | zero => rw [Nat.zero_add]; exact mantletlaw05_awake.yes
  | succ k ih => rw [show k + 1 + 80 = (k + 80) + 1 by omega]; exact mantletlaw05_awake.mono _ _ ih
theorem mantletlaw05_awake.more (k j : Nat) (r : Bool) (h : mantletlaw05_awake.f k = some r) : mantletlaw05_awake.f (k + j) = some r := by
  induction j with
  | zero => exact h
  | succ j ih => exact mantletlaw05_awake.mono _ _ ih
theorem mantletlaw05_awake.true_ (k : Nat) (r : Bool) (h : mantletlaw05_awake.f k = some r) : r = true := Option.some.inj ((mantletlaw05_awake.more k 80 r h).symm.trans (mantletlaw05_awake.from_ k))
set_option maxHeartbeats 8000000 in
set_option maxRecDepth 100000 in
theorem mantletlaw05_awake.calls (k : Nat)  (r : Bool) (w : World) (h : mantletlaw05_awake.f k  = some r) :
    Calls Try.prog 33 #[] w fun e w' => e = .returned (.bool r) ∧ Below w.heap.size w w' := by
  have HT := Aside0.mk (mantletlaw05_awake.true_ k r h)
  have HB := Aside0.mk (Below.refl w.heap.size w)
  have H : ((tcp_Build.f k 1 2 80 81 2 (([7] : List Int))).bind fun bt374 => ((tcp_Parse.f k 1 2 bt374.1).bind fun bt378 => ((tcp_Parse.f k 1 3 bt374.1).bind fun bt382 => (if (bt374.1.length : Int) = 21 then (if bt374.2 = 0 then (if bt378.1 = 80 then (if bt378.2.1 = 81 then (if bt378.2.2.1 = 2 then (if bt378.2.2.2 = 0 then (if bt382.2.2.2 = 7 then ((tcp_Sane.f 18).bind fun t386 => (if t386 = true then ((tcp_Sane.f 1).bind fun t387 => (if t387 = true then (some false) else ((tcp_Pseudo.f k 6 65536 2 5).bind fun t388 => (some (t388 == 14))))) else (some false))) else (some false)) else (some false)) else (some false)) else (some false)) else (some false)) else (some false)) else (some false))))) = some r := h
  clear h
  obtain ⟨y371, hy371⟩ : ∃ y_ : List Int, y_ = (([7] : List Int)) := ⟨_, rfl⟩
  replace H : ((tcp_Build.f k 1 2 80 81 2 y371).bind fun bt374 => ((tcp_Parse.f k 1 2 bt374.1).bind fun bt378 => ((tcp_Parse.f k 1 3 bt374.1).bind fun bt382 => (if (bt374.1.length : Int) = 21 then (if bt374.2 = 0 then (if bt378.1 = 80 then (if bt378.2.1 = 81 then (if bt378.2.2.1 = 2 then (if bt378.2.2.2 = 0 then (if bt382.2.2.2 = 7 then ((tcp_Sane.f 18).bind fun t386 => (if t386 = true then ((tcp_Sane.f 1).bind fun t387 => (if t387 = true then (some false) else ((tcp_Pseudo.f k 6 65536 2 5).bind fun t388 => (some (t388 == 14))))) else (some false))) else (some false)) else (some false)) else (some false)) else (some false)) else (some false)) else (some false)) else (some false))))) = some r := by first | (rw [hy371]; with_reducible exact H) | (have H2_ := (Option.bind_some _ _).symm.trans H; rw [hy371]; with_reducible exact H2_) | (have H2_ := (Option.bind_some _ _).symm.trans H; with_reducible exact H2_) | with_reducible exact H | (rw [hy371]; exact H) | exact H
  have Ny371 := Aside0.mk hy371
  clear hy371
  replace H := Option.bind_eq_some_iff.mp H
  obtain ⟨⟨t374, t377⟩, A10, H⟩ := H
  replace H : ((tcp_Parse.f k 1 2 t374).bind fun bt378 => ((tcp_Parse.f k 1 3 t374).bind fun bt382 => (if (t374.length : Int) = 21 then (if t377 = 0 then (if bt378.1 = 80 then (if bt378.2.1 = 81 then (if bt378.2.2.1 = 2 then (if bt378.2.2.2 = 0 then (if bt382.2.2.2 = 7 then ((tcp_Sane.f 18).bind fun t386 => (if t386 = true then ((tcp_Sane.f 1).bind fun t387 => (if t387 = true then (some false) else ((tcp_Pseudo.f k 6 65536 2 5).bind fun t388 => (some (t388 == 14))))) else (some false))) else (some false)) else (some false)) else (some false)) else (some false)) else (some false)) else (some false)) else (some false)))) = some r := H
  have A1 := Aside0.mk A10
  clear A10
  replace H := Option.bind_eq_some_iff.mp H
  obtain ⟨⟨t378, t379, t380, t381⟩, A20, H⟩ := H
  replace H : ((tcp_Parse.f k 1 3 t374).bind fun bt382 => (if (t374.length : Int) = 21 then (if t377 = 0 then (if t378 = 80 then (if t379 = 81 then (if t380 = 2 then (if t381 = 0 then (if bt382.2.2.2 = 7 then ((tcp_Sane.f 18).bind fun t386 => (if t386 = true then ((tcp_Sane.f 1).bind fun t387 => (if t387 = true then (some false) else ((tcp_Pseudo.f k 6 65536 2 5).bind fun t388 => (some (t388 == 14))))) else (some false))) else (some false)) else (some false)) else (some false)) else (some false)) else (some false)) else (some false)) else (some false))) = some r := H
  have A2 := Aside0.mk A20
  clear A20
  replace H := Option.bind_eq_some_iff.mp H
  obtain ⟨⟨t382, t383, t384, t385⟩, A30, H⟩ := H
  replace H : (if (t374.length : Int) = 21 then (if t377 = 0 then (if t378 = 80 then (if t379 = 81 then (if t380 = 2 then (if t381 = 0 then (if t385 = 7 then ((tcp_Sane.f 18).bind fun t386 => (if t386 = true then ((tcp_Sane.f 1).bind fun t387 => (if t387 = true then (some false) else ((tcp_Pseudo.f k 6 65536 2 5).bind fun t388 => (some (t388 == 14))))) else (some false))) else (some false)) else (some false)) else (some false)) else (some false)) else (some false)) else (some false)) else (some false)) = some r := H
  have A3 := Aside0.mk A30
  clear A30
  by_cases c4 : (t374.length : Int) = 21
  · rw [if_pos c4] at H
    have c4b0 : ((t374.length : Int) == 21) = true := beq_iff_eq.mpr c4
    have c4b1 : ((t374.length : Int) != 21) = false := bne_eq_false_iff_eq.mpr c4
    clear c4
    by_cases c5 : t377 = 0
    · rw [if_pos c5] at H
      have c5b0 : (t377 == 0) = true := beq_iff_eq.mpr c5
      have c5b1 : (t377 != 0) = false := bne_eq_false_iff_eq.mpr c5
      clear c5
      by_cases c6 : t378 = 80
      · rw [if_pos c6] at H
        have c6b0 : (t378 == 80) = true := beq_iff_eq.mpr c6
        have c6b1 : (t378 != 80) = false := bne_eq_false_iff_eq.mpr c6
        clear c6
        by_cases c7 : t379 = 81
        · rw [if_pos c7] at H
          have c7b0 : (t379 == 81) = true := beq_iff_eq.mpr c7
          have c7b1 : (t379 != 81) = false := bne_eq_false_iff_eq.mpr c7
          clear c7
          by_cases c8 : t380 = 2
          · rw [if_pos c8] at H
            have c8b0 : (t380 == 2) = true := beq_iff_eq.mpr c8
            have c8b1 : (t380 != 2) = false := bne_eq_false_iff_eq.mpr c8
            clear c8
            by_cases c9 : t381 = 0
            · rw [if_pos c9] at H
              have c9b0 : (t381 == 0) = true := beq_iff_eq.mpr c9
              have c9b1 : (t381 != 0) = false := bne_eq_false_iff_eq.mpr c9
              clear c9
              by_cases c10 : t385 = 7
              · rw [if_pos c10] at H
                have c10b0 : (t385 == 7) = true := beq_iff_eq.mpr c10
                have c10b1 : (t385 != 7) = false := bne_eq_false_iff_eq.mpr c10
                clear c10
                replace H := Option.bind_eq_some_iff.mp H
                obtain ⟨t386, A110, H⟩ := H
                replace H : (if t386 = true then ((tcp_Sane.f 1).bind fun t387 => (if t387 = true then (some false) else ((tcp_Pseudo.f k 6 65536 2 5).bind fun t388 => (some (t388 == 14))))) else (some false)) = some r := H
                have A11 := Aside0.mk A110
                clear A110
                by_cases c12 : t386 = true
                · subst c12
                  have H1 : ((tcp_Sane.f 1).bind fun t387 => (if t387 = true then (some false) else ((tcp_Pseudo.f k 6 65536 2 5).bind fun t388 => (some (t388 == 14))))) = some r := by rw [if_pos rfl] at H; exact H
                  clear H
                  have H := H1
                  clear H1
                  replace H := Option.bind_eq_some_iff.mp H
                  obtain ⟨t387, A130, H⟩ := H
                  replace H : (if t387 = true then (some false) else ((tcp_Pseudo.f k 6 65536 2 5).bind fun t388 => (some (t388 == 14)))) = some r := H
                  have A13 := Aside0.mk A130
                  clear A130
                  by_cases c14 : t387 = true
                  · subst c14
                    have H1 : (some false) = some r := by rw [if_pos rfl] at H; exact H
                    clear H
                    have H := H1
                    clear H1
                    exact absurd ((Option.some.inj H).trans HT.out) (by decide)
                  · replace c14 := Bool.eq_false_iff.mpr c14
                    subst c14
                    have H1 : ((tcp_Pseudo.f k 6 65536 2 5).bind fun t388 => (some (t388 == 14))) = some r := by rw [if_neg (show ¬ (false = true) by decide)] at H; exact H
                    clear H
                    have H := H1
                    clear H1
                    replace H := Option.bind_eq_some_iff.mp H
                    obtain ⟨t388, A220, H⟩ := H
                    replace H : (some (t388 == 14)) = some r := H
                    have A22 := Aside0.mk A220
                    clear A220
                    obtain rfl := Option.some.inj H
                    go_enter Try.func33, Try.ntmps33
                    go_wp2_with (first | ((with_reducible refine gate_dst (N := 12) rfl ?_); refine Kd.R_lit (Kd.int .u8) _ 5 ?hg (N := 12) ?hd (xs := ([7] : List Int)) (inner := [.int .u8 7]) (ok := fun _ => True) (okp := fun _ => True) ?hr ?hp (fun _ hk => hk) trivial (Below.refl _ _) (Nat.le_refl _) (by simp) ?_; (case hd => rfl); (case hg => rfl); (case hr => first | (go_simp; done) | (go_simp; rfl)); (case hp => exact (Reps.one (show Kd.M (Kd.int .u8) _ _ _ 7 [.int .u8 7] from rfl) (Reps.none _ _))); intro v372 w23 ho24 hb hg_ hnew_; clear hg_ hnew_; (first | rw [← Ny371.out] at ho24 | (simp only [Int.reduceToNat] at ho24; rw [← Ny371.out] at ho24)); have n0_ := Aside0.mk (Kd.R_lower ho24 (below_size (by repeat first | (with_reducible first | exact HB.out | apply below_alloc | apply pw_below_drewN | apply below_drew1) | exact HB.out))); have n1_ := Aside0.mk (below_step (by repeat first | (with_reducible first | exact HB.out | apply below_alloc | apply pw_below_drewN | apply below_drew1) | exact HB.out) hb); clear HB; have HO373 := n0_; have HB := n1_; clear n0_ n1_; clear hb ho24; obtain ⟨Ao25, co25, eo25⟩ := Kd.R_slice HO373.out; subst eo25) | ((with_reducible refine gate_callee (f := 34) rfl ?_); refine goesL_ (some 13) rfl rfl Try.func34 (by kernel_rfl) rfl #[.int .u32 1, .int .u32 2, .int .u16 80, .int .u16 81, .int .u8 2, .slice Ao25 y371.length co25] rfl (by (try simp only [List.map_toArray, List.map_cons, List.map_nil]); first | done | rfl) ?_; (with_reducible refine (tcp_Build.calls k 1 2 80 81 2 (fun k_ => some k_ = (.slice Ao25 y371.length co25 : Value).ownBlock) _ _ y371 t374 t377 _ ?side1 A1.out).mono ?_); (case side1 => exact Kd.R_V (Kd.R_tight rfl (HO373.out))); rintro e w26 ⟨v375, rfl, ho0, hb⟩; refine ⟨_, rfl, ?_⟩; have n0_ := Aside0.mk (Kd.R_below (by (with_reducible repeat (first | apply Kd.R_alloc | apply Kd.R_drewN | apply Kd.R_drew)); exact HO373.out) hb); have n1_ := Aside0.mk (Kd.V_lower (Kd.V_mono (ok' := fun k_ => True) ho0 (fun k_ hk_ => trivial)) (below_size (by repeat first | (with_reducible first | exact HB.out | apply below_alloc | apply pw_below_drewN | apply below_drew1) | exact HB.out))); have n2_ := Aside0.mk (below_step (by repeat first | (with_reducible first | exact HB.out | apply below_alloc | apply pw_below_drewN | apply below_drew1) | exact HB.out) hb); clear HO373; clear HB; have HO373 := n0_; have HO376 := n1_; have HB := n2_; clear n0_ n1_ n2_; (try clear hb); (try clear hb2); (try clear hk); (try clear hi); (try clear ho0); obtain ⟨Ao27, co27, eo27⟩ := Kd.V_slice HO376.out; subst eo27) | ((with_reducible refine gate_callee (f := 30) rfl ?_); refine goesL_ (some 18) rfl rfl Try.func30 (by kernel_rfl) rfl #[.int .u32 1, .int .u32 2, .slice Ao27 t374.length co27] rfl (by (try simp only [List.map_toArray, List.map_cons, List.map_nil]); first | done | rfl) ?_; (with_reducible refine (tcp_Parse.calls k 1 2 _ _ t374 t378 t379 t380 t381 _ ?side1 ?side2 A2.out).mono ?_); (case side1 => repeat (first | exact (Kd.V_reads' HO376.out).2.2 | (with_reducible refine Kd.C_alloc ?_ _) | (with_reducible refine Kd.C_drewN ?_ _) | (with_reducible refine Kd.C_drew ?_))); (case side2 => exact (Kd.V_reads' HO376.out).2.1); rintro e w28 ⟨rfl, hb⟩; refine ⟨_, rfl, ?_⟩; have n0_ := Aside0.mk (Kd.R_below (by (with_reducible repeat (first | apply Kd.R_alloc | apply Kd.R_drewN | apply Kd.R_drew)); exact HO373.out) hb); have n1_ := Aside0.mk (Kd.V_below (by (with_reducible repeat (first | apply Kd.V_alloc | apply Kd.V_drewN | apply Kd.V_drew)); exact HO376.out) hb); have n2_ := Aside0.mk (below_step (by repeat first | (with_reducible first | exact HB.out | apply below_alloc | apply pw_below_drewN | apply below_drew1) | exact HB.out) hb); clear HO373; clear HO376; clear HB; have HO373 := n0_; have HO376 := n1_; have HB := n2_; clear n0_ n1_ n2_; (try clear hb); (try clear hb2); (try clear hk); (try clear hi)) | ((with_reducible refine gate_callee (f := 30) rfl ?_); refine goesL_ (some 25) rfl rfl Try.func30 (by kernel_rfl) rfl #[.int .u32 1, .int .u32 3, .slice Ao27 t374.length co27] rfl (by (try simp only [List.map_toArray, List.map_cons, List.map_nil]); first | done | rfl) ?_; (with_reducible refine (tcp_Parse.calls k 1 3 _ _ t374 t382 t383 t384 t385 _ ?side1 ?side2 A3.out).mono ?_); (case side1 => repeat (first | exact (Kd.V_reads' HO376.out).2.2 | (with_reducible refine Kd.C_alloc ?_ _) | (with_reducible refine Kd.C_drewN ?_ _) | (with_reducible refine Kd.C_drew ?_))); (case side2 => exact (Kd.V_reads' HO376.out).2.1); rintro e w29 ⟨rfl, hb⟩; refine ⟨_, rfl, ?_⟩; have n0_ := Aside0.mk (Kd.R_below (by (with_reducible repeat (first | apply Kd.R_alloc | apply Kd.R_drewN | apply Kd.R_drew)); exact HO373.out) hb); have n1_ := Aside0.mk (Kd.V_below (by (with_reducible repeat (first | apply Kd.V_alloc | apply Kd.V_drewN | apply Kd.V_drew)); exact HO376.out) hb); have n2_ := Aside0.mk (below_step (by repeat first | (with_reducible first | exact HB.out | apply below_alloc | apply pw_below_drewN | apply below_drew1) | exact HB.out) hb); clear HO373; clear HO376; clear HB; have HO373 := n0_; have HO376 := n1_; have HB := n2_; clear n0_ n1_ n2_; (try clear hb); (try clear hb2); (try clear hk); (try clear hi)) | ((with_reducible refine gate_dst (N := 58) rfl ?_); refine gate_guard (by first | rfl | (go_simp; done)) ?_; dsimp only; (with_reducible refine gate_callee (f := 36) rfl ?_); refine goesL_ (some 58) rfl rfl Try.func36 (by kernel_rfl) rfl #[.int .u8 18] rfl (by (try simp only [List.map_toArray, List.map_cons, List.map_nil]); first | done | rfl) ?_; (with_reducible refine (tcp_Sane.calls 18 true _ A11.out).mono ?_); rintro e w' ⟨rfl, ⟨nd, rfl⟩⟩; refine ⟨_, rfl, ?_⟩) | ((with_reducible refine gate_dst (N := 61) rfl ?_); refine gate_guard (by first | rfl | (go_simp; done)) ?_; dsimp only; (with_reducible refine gate_callee (f := 36) rfl ?_); refine goesL_ (some 61) rfl rfl Try.func36 (by kernel_rfl) rfl #[.int .u8 1] rfl (by (try simp only [List.map_toArray, List.map_cons, List.map_nil]); first | done | rfl) ?_; (with_reducible refine (tcp_Sane.calls 1 false _ A13.out).mono ?_); rintro e w' ⟨rfl, ⟨nd, rfl⟩⟩; refine ⟨_, rfl, ?_⟩) | ((with_reducible refine gate_dst (N := 65) rfl ?_); refine gate_guard (by first | rfl | (go_simp; done)) ?_; dsimp only; (with_reducible refine gate_callee (f := 38) rfl ?_); refine goesL_ (some 65) rfl rfl Try.func38 (by kernel_rfl) rfl #[.int .u8 6, .int .u32 65536, .int .u32 2, .int .i64 5] rfl (by (try simp only [List.map_toArray, List.map_cons, List.map_nil]); first | done | rfl) ?_; (with_reducible refine (tcp_Pseudo.calls k 6 65536 2 5 t388 _ A22.out).mono ?_); rintro e w30 ⟨rfl, hb⟩; refine ⟨_, rfl, ?_⟩; have n0_ := Aside0.mk (Kd.R_below (by (with_reducible repeat (first | apply Kd.R_alloc | apply Kd.R_drewN | apply Kd.R_drew)); exact HO373.out) hb); have n1_ := Aside0.mk (Kd.V_below (by (with_reducible repeat (first | apply Kd.V_alloc | apply Kd.V_drewN | apply Kd.V_drew)); exact HO376.out) hb); have n2_ := Aside0.mk (below_step (by repeat first | (with_reducible first | exact HB.out | apply below_alloc | apply pw_below_drewN | apply below_drew1) | exact HB.out) hb); clear HO373; clear HO376; clear HB; have HO373 := n0_; have HO376 := n1_; have HB := n2_; clear n0_ n1_ n2_; (try clear hb); (try clear hb2); (try clear hk); (try clear hi)))
                    go_ret
                    exact ⟨by first | rfl | (simp [errW_none, errW_some] <;> rfl) | (simp [*, errW_none, errW_some] <;> rfl), by repeat first | (with_reducible first | exact HB.out | apply below_alloc | apply pw_below_drewN | apply below_drew1) | exact HB.out⟩
                · replace c12 := Bool.eq_false_iff.mpr c12
                  subst c12
                  have H1 : (some false) = some r := by rw [if_neg (show ¬ (false = true) by decide)] at H; exact H
                  clear H
                  have H := H1
                  clear H1
                  exact absurd ((Option.some.inj H).trans HT.out) (by decide)
              · rw [if_neg c10] at H
                have c10b0 : (t385 == 7) = false := beq_eq_false_iff_ne.mpr c10
                have c10b1 : (t385 != 7) = true := bne_iff_ne.mpr c10
                exact absurd ((Option.some.inj H).trans HT.out) (by decide)
            · rw [if_neg c9] at H
              have c9b0 : (t381 == 0) = false := beq_eq_false_iff_ne.mpr c9
              have c9b1 : (t381 != 0) = true := bne_iff_ne.mpr c9
              exact absurd ((Option.some.inj H).trans HT.out) (by decide)
          · rw [if_neg c8] at H
            have c8b0 : (t380 == 2) = false := beq_eq_false_iff_ne.mpr c8
            have c8b1 : (t380 != 2) = true := bne_iff_ne.mpr c8
            exact absurd ((Option.some.inj H).trans HT.out) (by decide)
        · rw [if_neg c7] at H
          have c7b0 : (t379 == 81) = false := beq_eq_false_iff_ne.mpr c7
          have c7b1 : (t379 != 81) = true := bne_iff_ne.mpr c7
          exact absurd ((Option.some.inj H).trans HT.out) (by decide)
      · rw [if_neg c6] at H
        have c6b0 : (t378 == 80) = false := beq_eq_false_iff_ne.mpr c6
        have c6b1 : (t378 != 80) = true := bne_iff_ne.mpr c6
        exact absurd ((Option.some.inj H).trans HT.out) (by decide)
    · rw [if_neg c5] at H
      have c5b0 : (t377 == 0) = false := beq_eq_false_iff_ne.mpr c5
      have c5b1 : (t377 != 0) = true := bne_iff_ne.mpr c5
      exact absurd ((Option.some.inj H).trans HT.out) (by decide)
  · rw [if_neg c4] at H
    have c4b0 : ((t374.length : Int) == 21) = false := beq_eq_false_iff_ne.mpr c4
    have c4b1 : ((t374.length : Int) != 21) = true := bne_iff_ne.mpr c4
    exact absurd ((Option.some.inj H).trans HT.out) (by decide)
end Go.Proofs.Ytofjgdbiieanjaa.All
