-- Made by a program of this workplace (wip/pr.sh) out of Lean's print of the translation; Lean checks it.
import Derived.Test.YtjmdidbhocmhgaaFldx0
import Derived.Test.YtjmdidbhocmhgaaFldx1
import Derived.Test.YtjmdidbhocmhgaaFldx2
import Derived.Test.YtjmdidbhocmhgaaFldx5
namespace Go.Proofs.Ytjmdidbhocmhgaa.Fld
open Go.RowKit Go.Proofs.YtjmdidbhocmhgaaW.PrintWords Go.Proofs.YtjmdidbhocmhgaaW.PrintLast Go.Proofs.YtjmdidbhocmhgaaW.PrintMore
attribute [local go_sem] max2_int min2_int max_two min_two max_three min_three max_four min_four   -- for this text's walks alone
set_option linter.unusedVariables false
set_option linter.unusedSimpArgs false

/-! ### mantletlaw01_FieldApart: function 11 -/
mutual
def mantletlaw01_FieldApart.j0 : Nat → Int → Int → Int → Int → Int → Int → Int → Bool → Option (Bool)
  | 0, _, _, _, _, _, _, _, _ => none
  | k + 1, x0, x1, x13, x14, x15, x16, x17, x56 => if x56 = true then ((field_Get.f x17 x15 x16).bind fun t158 => ((field_Get.f x0 x15 x16).bind fun t159 => (if t158 = t159 then (mantletlaw01_FieldApart.j1 k x0 x1 x13 x14 x17) else (some false)))) else (mantletlaw01_FieldApart.j1 k x0 x1 x13 x14 x17)
def mantletlaw01_FieldApart.j1 : Nat → Int → Int → Int → Int → Int → Option (Bool)
  | 0, _, _, _, _, _ => none
  | k + 1, x0, x1, x13, x14, x17 => (mantletlaw01_awake.f k).bind fun t160 => (if t160 = true then ((field_Get.f x17 x13 x14).bind fun t161 => ((field_Get.f x1 0 x14).bind fun t162 => (if t161 = t162 then ((field_Get.f x0 x13 x14).bind fun t163 => ((field_Put.f x17 x13 x14 t163).bind fun t164 => (some (t164 == x0)))) else (some false)))) else (some false))
end
def mantletlaw01_FieldApart.f (k : Nat) (a0 : Int) (a1 : Int) (a2 : Int) (a3 : Int) (a4 : Int) (a5 : Int) : Option (Bool) := if (wrap64 (64 - (wrap64 (Int.tmod a2 64)))) = 0 then (none) else (if (wrap64 (64 - (wrap64 (Int.tmod a4 64)))) = 0 then (none) else ((field_Put.f a0 (wrap64 (Int.tmod a2 64)) (wrap64 (1 + (Int.tmod (wrap64 (a3)) (wrap64 (64 - (wrap64 (Int.tmod a2 64))))))) a1).bind fun t157 => (if (wrap64 ((wrap64 (Int.tmod a2 64)) + (wrap64 (1 + (Int.tmod (wrap64 (a3)) (wrap64 (64 - (wrap64 (Int.tmod a2 64))))))))) ≤ (wrap64 (Int.tmod a4 64)) then (mantletlaw01_FieldApart.j0 k a0 a1 (wrap64 (Int.tmod a2 64)) (wrap64 (1 + (Int.tmod (wrap64 (a3)) (wrap64 (64 - (wrap64 (Int.tmod a2 64))))))) (wrap64 (Int.tmod a4 64)) (wrap64 (1 + (Int.tmod (wrap64 (a5)) (wrap64 (64 - (wrap64 (Int.tmod a4 64))))))) t157 true) else (mantletlaw01_FieldApart.j0 k a0 a1 (wrap64 (Int.tmod a2 64)) (wrap64 (1 + (Int.tmod (wrap64 (a3)) (wrap64 (64 - (wrap64 (Int.tmod a2 64))))))) (wrap64 (Int.tmod a4 64)) (wrap64 (1 + (Int.tmod (wrap64 (a5)) (wrap64 (64 - (wrap64 (Int.tmod a4 64))))))) t157 (decide ((wrap64 ((wrap64 (Int.tmod a4 64)) + (wrap64 (1 + (Int.tmod (wrap64 (a5)) (wrap64 (64 - (wrap64 (Int.tmod a4 64))))))))) ≤ (wrap64 (Int.tmod a2 64))))))))
theorem mantletlaw01_FieldApart.mono_l : ∀ k, (∀ y0 y1 y2 y3 y4 y5 y6 y7, LeO (mantletlaw01_FieldApart.j0 k y0 y1 y2 y3 y4 y5 y6 y7) (mantletlaw01_FieldApart.j0 (k + 1) y0 y1 y2 y3 y4 y5 y6 y7)) ∧ (∀ y0 y1 y2 y3 y4, LeO (mantletlaw01_FieldApart.j1 k y0 y1 y2 y3 y4) (mantletlaw01_FieldApart.j1 (k + 1) y0 y1 y2 y3 y4))
  | 0 => ⟨fun _ _ _ _ _ _ _ _ r h => by simp [mantletlaw01_FieldApart.j0] at h, fun _ _ _ _ _ r h => by simp [mantletlaw01_FieldApart.j1] at h⟩
  | k + 1 => by
    obtain ⟨ih0, ih1⟩ := mantletlaw01_FieldApart.mono_l k
    refine ⟨?_, ?_⟩
    · intro y0 y1 y2 y3 y4 y5 y6 y7
      unfold mantletlaw01_FieldApart.j0
      repeat' first
      | (with_reducible exact ih0 _ _ _ _ _ _ _ _)
      | (with_reducible exact ih1 _ _ _ _ _)
      | (with_reducible exact mantletlaw01_awake.mono _)
      | (with_reducible exact LeO.refl _)
      | (with_reducible exact LeO.none _)
      | (with_reducible refine LeO.ite ?_ ?_)
      | (with_reducible refine LeO.bind ?_ (fun _ => ?_))
      | exact ih0 _ _ _ _ _ _ _ _
      | exact ih1 _ _ _ _ _
      | exact mantletlaw01_awake.mono _
      | exact LeO.none _
      | refine LeO.ite ?_ ?_
      | refine LeO.bind ?_ (fun _ => ?_)
    · intro y0 y1 y2 y3 y4
      unfold mantletlaw01_FieldApart.j1
      repeat' first
      | (with_reducible exact ih0 _ _ _ _ _ _ _ _)
      | (with_reducible exact ih1 _ _ _ _ _)
      | (with_reducible exact mantletlaw01_awake.mono _)
      | (with_reducible exact LeO.refl _)
      | (with_reducible exact LeO.none _)
      | (with_reducible refine LeO.ite ?_ ?_)
      | (with_reducible refine LeO.bind ?_ (fun _ => ?_))
      | exact ih0 _ _ _ _ _ _ _ _
      | exact ih1 _ _ _ _ _
      | exact mantletlaw01_awake.mono _
      | exact LeO.none _
      | refine LeO.ite ?_ ?_
      | refine LeO.bind ?_ (fun _ => ?_)
theorem mantletlaw01_FieldApart.mono : ∀ a0 a1 a2 a3 a4 a5 k, LeO (mantletlaw01_FieldApart.f k a0 a1 a2 a3 a4 a5) (mantletlaw01_FieldApart.f (k + 1) a0 a1 a2 a3 a4 a5) := by
  intro a0 a1 a2 a3 a4 a5 k
  obtain ⟨ih0, ih1⟩ := mantletlaw01_FieldApart.mono_l k
  unfold mantletlaw01_FieldApart.f
  repeat' first
      | (with_reducible exact ih0 _ _ _ _ _ _ _ _)
      | (with_reducible exact ih1 _ _ _ _ _)
      | (with_reducible exact mantletlaw01_awake.mono _)
      | (with_reducible exact LeO.refl _)
      | (with_reducible exact LeO.none _)
      | (with_reducible refine LeO.ite ?_ ?_)
      | (with_reducible refine LeO.bind ?_ (fun _ => ?_))
      | exact ih0 _ _ _ _ _ _ _ _
      | exact ih1 _ _ _ _ _
      | exact mantletlaw01_awake.mono _
      | exact LeO.none _
      | refine LeO.ite ?_ ?_
      | refine LeO.bind ?_ (fun _ => ?_)
set_option maxHeartbeats 8000000 in
set_option maxRecDepth 100000 in
theorem mantletlaw01_FieldApart.calls (k : Nat) (a0 : Int) (a1 : Int) (a2 : Int) (a3 : Int) (a4 : Int) (a5 : Int) (r : Bool) (w : World) (h : mantletlaw01_FieldApart.f k a0 a1 a2 a3 a4 a5 = some r) :
    Calls Try.prog 11 #[.int .u64 a0, .int .u64 a1, .int .u8 a2, .int .u8 a3, .int .u8 a4, .int .u8 a5] w fun e w' => e = .returned (.bool r) ∧ Below w.heap.size w w' := by
  have HB := Aside0.mk (Below.refl w.heap.size w)
  have H : (if (wrap64 (64 - (wrap64 (Int.tmod a2 64)))) = 0 then (none) else (if (wrap64 (64 - (wrap64 (Int.tmod a4 64)))) = 0 then (none) else ((field_Put.f a0 (wrap64 (Int.tmod a2 64)) (wrap64 (1 + (Int.tmod (wrap64 (a3)) (wrap64 (64 - (wrap64 (Int.tmod a2 64))))))) a1).bind fun t157 => (if (wrap64 ((wrap64 (Int.tmod a2 64)) + (wrap64 (1 + (Int.tmod (wrap64 (a3)) (wrap64 (64 - (wrap64 (Int.tmod a2 64))))))))) ≤ (wrap64 (Int.tmod a4 64)) then (mantletlaw01_FieldApart.j0 k a0 a1 (wrap64 (Int.tmod a2 64)) (wrap64 (1 + (Int.tmod (wrap64 (a3)) (wrap64 (64 - (wrap64 (Int.tmod a2 64))))))) (wrap64 (Int.tmod a4 64)) (wrap64 (1 + (Int.tmod (wrap64 (a5)) (wrap64 (64 - (wrap64 (Int.tmod a4 64))))))) t157 true) else (mantletlaw01_FieldApart.j0 k a0 a1 (wrap64 (Int.tmod a2 64)) (wrap64 (1 + (Int.tmod (wrap64 (a3)) (wrap64 (64 - (wrap64 (Int.tmod a2 64))))))) (wrap64 (Int.tmod a4 64)) (wrap64 (1 + (Int.tmod (wrap64 (a5)) (wrap64 (64 - (wrap64 (Int.tmod a4 64))))))) t157 (decide ((wrap64 ((wrap64 (Int.tmod a4 64)) + (wrap64 (1 + (Int.tmod (wrap64 (a5)) (wrap64 (64 - (wrap64 (Int.tmod a4 64))))))))) ≤ (wrap64 (Int.tmod a2 64))))))))) = some r := h
  clear h
  by_cases c7 : (wrap64 (64 - (wrap64 (Int.tmod a2 64)))) = 0
  · rw [if_pos c7] at H
    exact absurd H (by simp)
  · rw [if_neg c7] at H
    have c7b0 : ((wrap64 (64 - (wrap64 (Int.tmod a2 64)))) == 0) = false := beq_eq_false_iff_ne.mpr c7
    have c7b1 : ((wrap64 (64 - (wrap64 (Int.tmod a2 64)))) != 0) = true := bne_iff_ne.mpr c7
    by_cases c8 : (wrap64 (64 - (wrap64 (Int.tmod a4 64)))) = 0
    · rw [if_pos c8] at H
      exact absurd H (by simp)
    · rw [if_neg c8] at H
      have c8b0 : ((wrap64 (64 - (wrap64 (Int.tmod a4 64)))) == 0) = false := beq_eq_false_iff_ne.mpr c8
      have c8b1 : ((wrap64 (64 - (wrap64 (Int.tmod a4 64)))) != 0) = true := bne_iff_ne.mpr c8
      replace H := Option.bind_eq_some_iff.mp H
      obtain ⟨t157, A90, H⟩ := H
      replace H : (if (wrap64 ((wrap64 (Int.tmod a2 64)) + (wrap64 (1 + (Int.tmod (wrap64 (a3)) (wrap64 (64 - (wrap64 (Int.tmod a2 64))))))))) ≤ (wrap64 (Int.tmod a4 64)) then (mantletlaw01_FieldApart.j0 k a0 a1 (wrap64 (Int.tmod a2 64)) (wrap64 (1 + (Int.tmod (wrap64 (a3)) (wrap64 (64 - (wrap64 (Int.tmod a2 64))))))) (wrap64 (Int.tmod a4 64)) (wrap64 (1 + (Int.tmod (wrap64 (a5)) (wrap64 (64 - (wrap64 (Int.tmod a4 64))))))) t157 true) else (mantletlaw01_FieldApart.j0 k a0 a1 (wrap64 (Int.tmod a2 64)) (wrap64 (1 + (Int.tmod (wrap64 (a3)) (wrap64 (64 - (wrap64 (Int.tmod a2 64))))))) (wrap64 (Int.tmod a4 64)) (wrap64 (1 + (Int.tmod (wrap64 (a5)) (wrap64 (64 - (wrap64 (Int.tmod a4 64))))))) t157 (decide ((wrap64 ((wrap64 (Int.tmod a4 64)) + (wrap64 (1 + (Int.tmod (wrap64 (a5)) (wrap64 (64 - (wrap64 (Int.tmod a4 64))))))))) ≤ (wrap64 (Int.tmod a2 64)))))) = some r := H
      have A9 := Aside0.mk A90
      clear A90
      have HC10 := Aside0.mk H
      clear H
      go_enter Try.func11, Try.ntmps11
      go_upto_region 4 with (first | (go_at_call 23; (with_reducible refine (field_Put.calls a0 (wrap64 (Int.tmod a2 64)) (wrap64 (1 + (Int.tmod (wrap64 (a3)) (wrap64 (64 - (wrap64 (Int.tmod a2 64))))))) a1 t157 _ A9.out).mono ?_); rintro e w' ⟨rfl, ⟨nd, rfl⟩⟩; (try first | exact ⟨rfl, _, World.drewN_drewN _ _ _⟩ | exact ⟨rfl, _, Eq.trans (World.drewN_drewN _ _ _) (congrArg (World.drewN _) (Nat.add_assoc _ _ _))⟩)))
      repeat (go_quiet (first | (go_at_call 23; (with_reducible refine (field_Put.calls a0 (wrap64 (Int.tmod a2 64)) (wrap64 (1 + (Int.tmod (wrap64 (a3)) (wrap64 (64 - (wrap64 (Int.tmod a2 64))))))) a1 t157 _ A9.out).mono ?_); rintro e w' ⟨rfl, ⟨nd, rfl⟩⟩; (try first | exact ⟨rfl, _, World.drewN_drewN _ _ _⟩ | exact ⟨rfl, _, Eq.trans (World.drewN_drewN _ _ _) (congrArg (World.drewN _) (Nat.add_assoc _ _ _))⟩))); go_upto_region 4 with (first | (go_at_call 23; (with_reducible refine (field_Put.calls a0 (wrap64 (Int.tmod a2 64)) (wrap64 (1 + (Int.tmod (wrap64 (a3)) (wrap64 (64 - (wrap64 (Int.tmod a2 64))))))) a1 t157 _ A9.out).mono ?_); rintro e w' ⟨rfl, ⟨nd, rfl⟩⟩; (try first | exact ⟨rfl, _, World.drewN_drewN _ _ _⟩ | exact ⟨rfl, _, Eq.trans (World.drewN_drewN _ _ _) (congrArg (World.drewN _) (Nat.add_assoc _ _ _))⟩))))
      (try simp only [Act.put, List.setIfInBounds_toArray, List.set_cons_zero, List.set_cons_succ])
      go_cut [56] (fun v56 wc => ∃ (kq : Nat) (x56_9 : Bool), v56 = .bool x56_9 ∧ Aside0 (mantletlaw01_FieldApart.j0 kq a0 a1 (wrap64 (Int.tmod a2 64)) (wrap64 (1 + (Int.tmod (wrap64 (a3)) (wrap64 (64 - (wrap64 (Int.tmod a2 64))))))) (wrap64 (Int.tmod a4 64)) (wrap64 (1 + (Int.tmod (wrap64 (a5)) (wrap64 (64 - (wrap64 (Int.tmod a4 64))))))) t157 x56_9 = some r) ∧ Aside0 (kq ≤ k) ∧ Aside0 (Below w.heap.size w wc))
      case first =>
        have H := HC10.out
        clear HC10
        by_cases c11 : (wrap64 ((wrap64 (Int.tmod a2 64)) + (wrap64 (1 + (Int.tmod (wrap64 (a3)) (wrap64 (64 - (wrap64 (Int.tmod a2 64))))))))) ≤ (wrap64 (Int.tmod a4 64))
        · rw [if_pos c11] at H
          have c11b0 : decide ((wrap64 ((wrap64 (Int.tmod a2 64)) + (wrap64 (1 + (Int.tmod (wrap64 (a3)) (wrap64 (64 - (wrap64 (Int.tmod a2 64))))))))) ≤ (wrap64 (Int.tmod a4 64))) = true := decide_eq_true c11
          clear c11
          (first | rw [c11b0] | (simp only [i64_w, i32_w]; rw [c11b0]) | skip)
          have H' := Aside0.mk H
          clear H
          go_wp2
          repeat (go_quiet (fail); try go_wp2)
          go_meet
          case rel => exact ⟨_, (true), (by first | rfl | (simp; done) | (simp [*]; done)), H', ⟨by first | omega | exact Nat.le_refl _⟩, ⟨by repeat (first | (with_reducible first | exact HB.out | apply below_alloc | apply pw_below_drewN | apply below_drew1) | exact HB.out)⟩⟩
        · rw [if_neg c11] at H
          have c11b0 : decide ((wrap64 ((wrap64 (Int.tmod a2 64)) + (wrap64 (1 + (Int.tmod (wrap64 (a3)) (wrap64 (64 - (wrap64 (Int.tmod a2 64))))))))) ≤ (wrap64 (Int.tmod a4 64))) = false := decide_eq_false c11
          clear c11
          (first | rw [c11b0] | (simp only [i64_w, i32_w]; rw [c11b0]) | skip)
          have H' := Aside0.mk H
          clear H
          go_wp2
          repeat (go_quiet (fail); try go_wp2)
          go_meet
          case rel => exact ⟨_, (decide ((wrap64 ((wrap64 (Int.tmod a4 64)) + (wrap64 (1 + (Int.tmod (wrap64 (a5)) (wrap64 (64 - (wrap64 (Int.tmod a4 64))))))))) ≤ (wrap64 (Int.tmod a2 64)))), (by first | rfl | (simp; done) | (simp [*]; done)), H', ⟨by first | omega | exact Nat.le_refl _⟩, ⟨by repeat (first | (with_reducible first | exact HB.out | apply below_alloc | apply pw_below_drewN | apply below_drew1) | exact HB.out)⟩⟩
      case rest =>
        clear HC10
        try clear c1
        try clear p2
        try clear p6
        try clear c7
        try clear c7b0
        try clear c7b1
        try clear c8
        try clear c8b0
        try clear c8b1
        try clear c11
        try clear c11b0
        obtain ⟨kq, x56_9, rfl, HA, HJ9, HB⟩ := hcut
        cases kq with
        | zero => exact absurd HA.out (by simp [mantletlaw01_FieldApart.j0])
        | succ kj9 =>
          have H := HA.out
          clear HA
          simp only [mantletlaw01_FieldApart.j0] at H
          have HC12 := Aside0.mk H
          clear H
          go_upto_if 56 with (fail)
          repeat (go_quiet (fail); go_upto_if 56 with (fail))
          go_cut [] (fun wc => ∃ (kq : Nat), Aside0 (mantletlaw01_FieldApart.j1 kq a0 a1 (wrap64 (Int.tmod a2 64)) (wrap64 (1 + (Int.tmod (wrap64 (a3)) (wrap64 (64 - (wrap64 (Int.tmod a2 64))))))) t157 = some r) ∧ Aside0 (kq ≤ kj9) ∧ Aside0 (Below w.heap.size w wc))
          case first =>
            have H := HC12.out
            clear HC12
            by_cases c13 : x56_9 = true
            · subst c13
              have H1 : ((field_Get.f t157 (wrap64 (Int.tmod a4 64)) (wrap64 (1 + (Int.tmod (wrap64 (a5)) (wrap64 (64 - (wrap64 (Int.tmod a4 64)))))))).bind fun t158 => ((field_Get.f a0 (wrap64 (Int.tmod a4 64)) (wrap64 (1 + (Int.tmod (wrap64 (a5)) (wrap64 (64 - (wrap64 (Int.tmod a4 64)))))))).bind fun t159 => (if t158 = t159 then (mantletlaw01_FieldApart.j1 kj9 a0 a1 (wrap64 (Int.tmod a2 64)) (wrap64 (1 + (Int.tmod (wrap64 (a3)) (wrap64 (64 - (wrap64 (Int.tmod a2 64))))))) t157) else (some false)))) = some r := by rw [if_pos rfl] at H; exact H
              clear H
              have H := H1
              clear H1
              replace H := Option.bind_eq_some_iff.mp H
              obtain ⟨t158, A140, H⟩ := H
              replace H : ((field_Get.f a0 (wrap64 (Int.tmod a4 64)) (wrap64 (1 + (Int.tmod (wrap64 (a5)) (wrap64 (64 - (wrap64 (Int.tmod a4 64)))))))).bind fun t159 => (if t158 = t159 then (mantletlaw01_FieldApart.j1 kj9 a0 a1 (wrap64 (Int.tmod a2 64)) (wrap64 (1 + (Int.tmod (wrap64 (a3)) (wrap64 (64 - (wrap64 (Int.tmod a2 64))))))) t157) else (some false))) = some r := H
              have A14 := Aside0.mk A140
              clear A140
              replace H := Option.bind_eq_some_iff.mp H
              obtain ⟨t159, A150, H⟩ := H
              replace H : (if t158 = t159 then (mantletlaw01_FieldApart.j1 kj9 a0 a1 (wrap64 (Int.tmod a2 64)) (wrap64 (1 + (Int.tmod (wrap64 (a3)) (wrap64 (64 - (wrap64 (Int.tmod a2 64))))))) t157) else (some false)) = some r := H
              have A15 := Aside0.mk A150
              clear A150
              by_cases c16 : t158 = t159
              · rw [if_pos c16] at H
                have c16b0 : (t158 == t159) = true := beq_iff_eq.mpr c16
                have c16b1 : (t158 != t159) = false := bne_eq_false_iff_eq.mpr c16
                clear c16
                (first | rw [c16b0] | (simp only [i64_w, i32_w]; rw [c16b0]) | skip)
                have H' := Aside0.mk H
                clear H
                go_wp2_with (first | (go_at_call 21; (with_reducible refine (field_Get.calls t157 (wrap64 (Int.tmod a4 64)) (wrap64 (1 + (Int.tmod (wrap64 (a5)) (wrap64 (64 - (wrap64 (Int.tmod a4 64))))))) t158 _ A14.out).mono ?_); rintro e w' ⟨rfl, ⟨nd, rfl⟩⟩; (try first | exact ⟨rfl, _, World.drewN_drewN _ _ _⟩ | exact ⟨rfl, _, Eq.trans (World.drewN_drewN _ _ _) (congrArg (World.drewN _) (Nat.add_assoc _ _ _))⟩)) | (go_at_call 21; (with_reducible refine (field_Get.calls a0 (wrap64 (Int.tmod a4 64)) (wrap64 (1 + (Int.tmod (wrap64 (a5)) (wrap64 (64 - (wrap64 (Int.tmod a4 64))))))) t159 _ A15.out).mono ?_); rintro e w' ⟨rfl, ⟨nd, rfl⟩⟩; (try first | exact ⟨rfl, _, World.drewN_drewN _ _ _⟩ | exact ⟨rfl, _, Eq.trans (World.drewN_drewN _ _ _) (congrArg (World.drewN _) (Nat.add_assoc _ _ _))⟩)))
                repeat (go_quiet (first | (go_at_call 21; (with_reducible refine (field_Get.calls t157 (wrap64 (Int.tmod a4 64)) (wrap64 (1 + (Int.tmod (wrap64 (a5)) (wrap64 (64 - (wrap64 (Int.tmod a4 64))))))) t158 _ A14.out).mono ?_); rintro e w' ⟨rfl, ⟨nd, rfl⟩⟩; (try first | exact ⟨rfl, _, World.drewN_drewN _ _ _⟩ | exact ⟨rfl, _, Eq.trans (World.drewN_drewN _ _ _) (congrArg (World.drewN _) (Nat.add_assoc _ _ _))⟩)) | (go_at_call 21; (with_reducible refine (field_Get.calls a0 (wrap64 (Int.tmod a4 64)) (wrap64 (1 + (Int.tmod (wrap64 (a5)) (wrap64 (64 - (wrap64 (Int.tmod a4 64))))))) t159 _ A15.out).mono ?_); rintro e w' ⟨rfl, ⟨nd, rfl⟩⟩; (try first | exact ⟨rfl, _, World.drewN_drewN _ _ _⟩ | exact ⟨rfl, _, Eq.trans (World.drewN_drewN _ _ _) (congrArg (World.drewN _) (Nat.add_assoc _ _ _))⟩))); try go_wp2_with (first | (go_at_call 21; (with_reducible refine (field_Get.calls t157 (wrap64 (Int.tmod a4 64)) (wrap64 (1 + (Int.tmod (wrap64 (a5)) (wrap64 (64 - (wrap64 (Int.tmod a4 64))))))) t158 _ A14.out).mono ?_); rintro e w' ⟨rfl, ⟨nd, rfl⟩⟩; (try first | exact ⟨rfl, _, World.drewN_drewN _ _ _⟩ | exact ⟨rfl, _, Eq.trans (World.drewN_drewN _ _ _) (congrArg (World.drewN _) (Nat.add_assoc _ _ _))⟩)) | (go_at_call 21; (with_reducible refine (field_Get.calls a0 (wrap64 (Int.tmod a4 64)) (wrap64 (1 + (Int.tmod (wrap64 (a5)) (wrap64 (64 - (wrap64 (Int.tmod a4 64))))))) t159 _ A15.out).mono ?_); rintro e w' ⟨rfl, ⟨nd, rfl⟩⟩; (try first | exact ⟨rfl, _, World.drewN_drewN _ _ _⟩ | exact ⟨rfl, _, Eq.trans (World.drewN_drewN _ _ _) (congrArg (World.drewN _) (Nat.add_assoc _ _ _))⟩))))
                go_meet
                case rel => exact ⟨_, H', ⟨by have := HJ9.out; first | omega | exact Nat.le_refl _⟩, ⟨by repeat (first | (with_reducible first | exact HB.out | apply below_alloc | apply pw_below_drewN | apply below_drew1) | exact HB.out)⟩⟩
              · rw [if_neg c16] at H
                have c16b0 : (t158 == t159) = false := beq_eq_false_iff_ne.mpr c16
                have c16b1 : (t158 != t159) = true := bne_iff_ne.mpr c16
                (first | rw [c16b0] | (simp only [i64_w, i32_w]; rw [c16b0]) | skip)
                obtain rfl := Option.some.inj H
                go_wp2_with (first | (go_at_call 21; (with_reducible refine (field_Get.calls t157 (wrap64 (Int.tmod a4 64)) (wrap64 (1 + (Int.tmod (wrap64 (a5)) (wrap64 (64 - (wrap64 (Int.tmod a4 64))))))) t158 _ A14.out).mono ?_); rintro e w' ⟨rfl, ⟨nd, rfl⟩⟩; (try first | exact ⟨rfl, _, World.drewN_drewN _ _ _⟩ | exact ⟨rfl, _, Eq.trans (World.drewN_drewN _ _ _) (congrArg (World.drewN _) (Nat.add_assoc _ _ _))⟩)) | (go_at_call 21; (with_reducible refine (field_Get.calls a0 (wrap64 (Int.tmod a4 64)) (wrap64 (1 + (Int.tmod (wrap64 (a5)) (wrap64 (64 - (wrap64 (Int.tmod a4 64))))))) t159 _ A15.out).mono ?_); rintro e w' ⟨rfl, ⟨nd, rfl⟩⟩; (try first | exact ⟨rfl, _, World.drewN_drewN _ _ _⟩ | exact ⟨rfl, _, Eq.trans (World.drewN_drewN _ _ _) (congrArg (World.drewN _) (Nat.add_assoc _ _ _))⟩)))
                repeat (go_quiet (first | (go_at_call 21; (with_reducible refine (field_Get.calls t157 (wrap64 (Int.tmod a4 64)) (wrap64 (1 + (Int.tmod (wrap64 (a5)) (wrap64 (64 - (wrap64 (Int.tmod a4 64))))))) t158 _ A14.out).mono ?_); rintro e w' ⟨rfl, ⟨nd, rfl⟩⟩; (try first | exact ⟨rfl, _, World.drewN_drewN _ _ _⟩ | exact ⟨rfl, _, Eq.trans (World.drewN_drewN _ _ _) (congrArg (World.drewN _) (Nat.add_assoc _ _ _))⟩)) | (go_at_call 21; (with_reducible refine (field_Get.calls a0 (wrap64 (Int.tmod a4 64)) (wrap64 (1 + (Int.tmod (wrap64 (a5)) (wrap64 (64 - (wrap64 (Int.tmod a4 64))))))) t159 _ A15.out).mono ?_); rintro e w' ⟨rfl, ⟨nd, rfl⟩⟩; (try first | exact ⟨rfl, _, World.drewN_drewN _ _ _⟩ | exact ⟨rfl, _, Eq.trans (World.drewN_drewN _ _ _) (congrArg (World.drewN _) (Nat.add_assoc _ _ _))⟩))); try go_wp2_with (first | (go_at_call 21; (with_reducible refine (field_Get.calls t157 (wrap64 (Int.tmod a4 64)) (wrap64 (1 + (Int.tmod (wrap64 (a5)) (wrap64 (64 - (wrap64 (Int.tmod a4 64))))))) t158 _ A14.out).mono ?_); rintro e w' ⟨rfl, ⟨nd, rfl⟩⟩; (try first | exact ⟨rfl, _, World.drewN_drewN _ _ _⟩ | exact ⟨rfl, _, Eq.trans (World.drewN_drewN _ _ _) (congrArg (World.drewN _) (Nat.add_assoc _ _ _))⟩)) | (go_at_call 21; (with_reducible refine (field_Get.calls a0 (wrap64 (Int.tmod a4 64)) (wrap64 (1 + (Int.tmod (wrap64 (a5)) (wrap64 (64 - (wrap64 (Int.tmod a4 64))))))) t159 _ A15.out).mono ?_); rintro e w' ⟨rfl, ⟨nd, rfl⟩⟩; (try first | exact ⟨rfl, _, World.drewN_drewN _ _ _⟩ | exact ⟨rfl, _, Eq.trans (World.drewN_drewN _ _ _) (congrArg (World.drewN _) (Nat.add_assoc _ _ _))⟩))))
                go_ret
                exact ⟨by first | rfl | (simp [errW_none, errW_some] <;> rfl) | (simp [*, errW_none, errW_some] <;> rfl), by repeat (first | (with_reducible first | exact HB.out | apply below_alloc | apply pw_below_drewN | apply below_drew1) | exact HB.out)⟩
            · replace c13 := Bool.eq_false_iff.mpr c13
              subst c13
              have H1 : (mantletlaw01_FieldApart.j1 kj9 a0 a1 (wrap64 (Int.tmod a2 64)) (wrap64 (1 + (Int.tmod (wrap64 (a3)) (wrap64 (64 - (wrap64 (Int.tmod a2 64))))))) t157) = some r := by rw [if_neg (show ¬ (false = true) by decide)] at H; exact H
              clear H
              have H := H1
              clear H1
              have H' := Aside0.mk H
              clear H
              go_wp2
              repeat (go_quiet (fail); try go_wp2)
              go_meet
              case rel => exact ⟨_, H', ⟨by have := HJ9.out; first | omega | exact Nat.le_refl _⟩, ⟨by repeat (first | (with_reducible first | exact HB.out | apply below_alloc | apply pw_below_drewN | apply below_drew1) | exact HB.out)⟩⟩
          case rest =>
            clear HC12
            try clear c1
            try clear p2
            try clear p6
            try clear c7
            try clear c7b0
            try clear c7b1
            try clear c8
            try clear c8b0
            try clear c8b1
            try clear c11
            try clear c11b0
            try clear c13
            try clear c16
            try clear c16b0
            try clear c16b1
            try clear p2
            try clear p6
            obtain ⟨kq, HA, HJ11, HB⟩ := hcut
            cases kq with
            | zero => exact absurd HA.out (by simp [mantletlaw01_FieldApart.j1])
            | succ kj11 =>
              have H := HA.out
              clear HA
              simp only [mantletlaw01_FieldApart.j1] at H
              replace H := Option.bind_eq_some_iff.mp H
              obtain ⟨t160, A170, H⟩ := H
              replace H : (if t160 = true then ((field_Get.f t157 (wrap64 (Int.tmod a2 64)) (wrap64 (1 + (Int.tmod (wrap64 (a3)) (wrap64 (64 - (wrap64 (Int.tmod a2 64)))))))).bind fun t161 => ((field_Get.f a1 0 (wrap64 (1 + (Int.tmod (wrap64 (a3)) (wrap64 (64 - (wrap64 (Int.tmod a2 64)))))))).bind fun t162 => (if t161 = t162 then ((field_Get.f a0 (wrap64 (Int.tmod a2 64)) (wrap64 (1 + (Int.tmod (wrap64 (a3)) (wrap64 (64 - (wrap64 (Int.tmod a2 64)))))))).bind fun t163 => ((field_Put.f t157 (wrap64 (Int.tmod a2 64)) (wrap64 (1 + (Int.tmod (wrap64 (a3)) (wrap64 (64 - (wrap64 (Int.tmod a2 64))))))) t163).bind fun t164 => (some (t164 == a0)))) else (some false)))) else (some false)) = some r := H
              have A17 := Aside0.mk A170
              clear A170
              by_cases c18 : t160 = true
              · subst c18
                have H1 : ((field_Get.f t157 (wrap64 (Int.tmod a2 64)) (wrap64 (1 + (Int.tmod (wrap64 (a3)) (wrap64 (64 - (wrap64 (Int.tmod a2 64)))))))).bind fun t161 => ((field_Get.f a1 0 (wrap64 (1 + (Int.tmod (wrap64 (a3)) (wrap64 (64 - (wrap64 (Int.tmod a2 64)))))))).bind fun t162 => (if t161 = t162 then ((field_Get.f a0 (wrap64 (Int.tmod a2 64)) (wrap64 (1 + (Int.tmod (wrap64 (a3)) (wrap64 (64 - (wrap64 (Int.tmod a2 64)))))))).bind fun t163 => ((field_Put.f t157 (wrap64 (Int.tmod a2 64)) (wrap64 (1 + (Int.tmod (wrap64 (a3)) (wrap64 (64 - (wrap64 (Int.tmod a2 64))))))) t163).bind fun t164 => (some (t164 == a0)))) else (some false)))) = some r := by rw [if_pos rfl] at H; exact H
                clear H
                have H := H1
                clear H1
                replace H := Option.bind_eq_some_iff.mp H
                obtain ⟨t161, A190, H⟩ := H
                replace H : ((field_Get.f a1 0 (wrap64 (1 + (Int.tmod (wrap64 (a3)) (wrap64 (64 - (wrap64 (Int.tmod a2 64)))))))).bind fun t162 => (if t161 = t162 then ((field_Get.f a0 (wrap64 (Int.tmod a2 64)) (wrap64 (1 + (Int.tmod (wrap64 (a3)) (wrap64 (64 - (wrap64 (Int.tmod a2 64)))))))).bind fun t163 => ((field_Put.f t157 (wrap64 (Int.tmod a2 64)) (wrap64 (1 + (Int.tmod (wrap64 (a3)) (wrap64 (64 - (wrap64 (Int.tmod a2 64))))))) t163).bind fun t164 => (some (t164 == a0)))) else (some false))) = some r := H
                have A19 := Aside0.mk A190
                clear A190
                replace H := Option.bind_eq_some_iff.mp H
                obtain ⟨t162, A200, H⟩ := H
                replace H : (if t161 = t162 then ((field_Get.f a0 (wrap64 (Int.tmod a2 64)) (wrap64 (1 + (Int.tmod (wrap64 (a3)) (wrap64 (64 - (wrap64 (Int.tmod a2 64)))))))).bind fun t163 => ((field_Put.f t157 (wrap64 (Int.tmod a2 64)) (wrap64 (1 + (Int.tmod (wrap64 (a3)) (wrap64 (64 - (wrap64 (Int.tmod a2 64))))))) t163).bind fun t164 => (some (t164 == a0)))) else (some false)) = some r := H
                have A20 := Aside0.mk A200
                clear A200
                by_cases c21 : t161 = t162
                · rw [if_pos c21] at H
                  have c21b0 : (t161 == t162) = true := beq_iff_eq.mpr c21
                  have c21b1 : (t161 != t162) = false := bne_eq_false_iff_eq.mpr c21
                  clear c21
                  replace H := Option.bind_eq_some_iff.mp H
                  obtain ⟨t163, A220, H⟩ := H
                  replace H : ((field_Put.f t157 (wrap64 (Int.tmod a2 64)) (wrap64 (1 + (Int.tmod (wrap64 (a3)) (wrap64 (64 - (wrap64 (Int.tmod a2 64))))))) t163).bind fun t164 => (some (t164 == a0))) = some r := H
                  have A22 := Aside0.mk A220
                  clear A220
                  replace H := Option.bind_eq_some_iff.mp H
                  obtain ⟨t164, A230, H⟩ := H
                  replace H : (some (t164 == a0)) = some r := H
                  have A23 := Aside0.mk A230
                  clear A230
                  obtain rfl := Option.some.inj H
                  go_wp2_with (first | (go_at_call 20; (with_reducible refine (mantletlaw01_awake.calls kj11  true _ A17.out).mono ?_); rintro e w24 ⟨rfl, hb⟩; have n0_ := Aside0.mk (below_step (by repeat (first | (with_reducible first | exact HB.out | apply below_alloc | apply pw_below_drewN | apply below_drew1) | exact HB.out)) hb); clear HB; have HB := n0_; clear n0_; (try clear hb); (try clear hb2); (try clear hk); (try clear hi)) | (go_at_call 21; (with_reducible refine (field_Get.calls t157 (wrap64 (Int.tmod a2 64)) (wrap64 (1 + (Int.tmod (wrap64 (a3)) (wrap64 (64 - (wrap64 (Int.tmod a2 64))))))) t161 _ A19.out).mono ?_); rintro e w' ⟨rfl, ⟨nd, rfl⟩⟩; (try first | exact ⟨rfl, _, World.drewN_drewN _ _ _⟩ | exact ⟨rfl, _, Eq.trans (World.drewN_drewN _ _ _) (congrArg (World.drewN _) (Nat.add_assoc _ _ _))⟩)) | (go_at_call 21; (with_reducible refine (field_Get.calls a1 0 (wrap64 (1 + (Int.tmod (wrap64 (a3)) (wrap64 (64 - (wrap64 (Int.tmod a2 64))))))) t162 _ A20.out).mono ?_); rintro e w' ⟨rfl, ⟨nd, rfl⟩⟩; (try first | exact ⟨rfl, _, World.drewN_drewN _ _ _⟩ | exact ⟨rfl, _, Eq.trans (World.drewN_drewN _ _ _) (congrArg (World.drewN _) (Nat.add_assoc _ _ _))⟩)) | (go_at_call 21; (with_reducible refine (field_Get.calls a0 (wrap64 (Int.tmod a2 64)) (wrap64 (1 + (Int.tmod (wrap64 (a3)) (wrap64 (64 - (wrap64 (Int.tmod a2 64))))))) t163 _ A22.out).mono ?_); rintro e w' ⟨rfl, ⟨nd, rfl⟩⟩; (try first | exact ⟨rfl, _, World.drewN_drewN _ _ _⟩ | exact ⟨rfl, _, Eq.trans (World.drewN_drewN _ _ _) (congrArg (World.drewN _) (Nat.add_assoc _ _ _))⟩)) | (go_at_call 23; (with_reducible refine (field_Put.calls t157 (wrap64 (Int.tmod a2 64)) (wrap64 (1 + (Int.tmod (wrap64 (a3)) (wrap64 (64 - (wrap64 (Int.tmod a2 64))))))) t163 t164 _ A23.out).mono ?_); rintro e w' ⟨rfl, ⟨nd, rfl⟩⟩; (try first | exact ⟨rfl, _, World.drewN_drewN _ _ _⟩ | exact ⟨rfl, _, Eq.trans (World.drewN_drewN _ _ _) (congrArg (World.drewN _) (Nat.add_assoc _ _ _))⟩)))
                  repeat (go_quiet (first | (go_at_call 20; (with_reducible refine (mantletlaw01_awake.calls kj11  true _ A17.out).mono ?_); rintro e w24 ⟨rfl, hb⟩; have n0_ := Aside0.mk (below_step (by repeat (first | (with_reducible first | exact HB.out | apply below_alloc | apply pw_below_drewN | apply below_drew1) | exact HB.out)) hb); clear HB; have HB := n0_; clear n0_; (try clear hb); (try clear hb2); (try clear hk); (try clear hi)) | (go_at_call 21; (with_reducible refine (field_Get.calls t157 (wrap64 (Int.tmod a2 64)) (wrap64 (1 + (Int.tmod (wrap64 (a3)) (wrap64 (64 - (wrap64 (Int.tmod a2 64))))))) t161 _ A19.out).mono ?_); rintro e w' ⟨rfl, ⟨nd, rfl⟩⟩; (try first | exact ⟨rfl, _, World.drewN_drewN _ _ _⟩ | exact ⟨rfl, _, Eq.trans (World.drewN_drewN _ _ _) (congrArg (World.drewN _) (Nat.add_assoc _ _ _))⟩)) | (go_at_call 21; (with_reducible refine (field_Get.calls a1 0 (wrap64 (1 + (Int.tmod (wrap64 (a3)) (wrap64 (64 - (wrap64 (Int.tmod a2 64))))))) t162 _ A20.out).mono ?_); rintro e w' ⟨rfl, ⟨nd, rfl⟩⟩; (try first | exact ⟨rfl, _, World.drewN_drewN _ _ _⟩ | exact ⟨rfl, _, Eq.trans (World.drewN_drewN _ _ _) (congrArg (World.drewN _) (Nat.add_assoc _ _ _))⟩)) | (go_at_call 21; (with_reducible refine (field_Get.calls a0 (wrap64 (Int.tmod a2 64)) (wrap64 (1 + (Int.tmod (wrap64 (a3)) (wrap64 (64 - (wrap64 (Int.tmod a2 64))))))) t163 _ A22.out).mono ?_); rintro e w' ⟨rfl, ⟨nd, rfl⟩⟩; (try first | exact ⟨rfl, _, World.drewN_drewN _ _ _⟩ | exact ⟨rfl, _, Eq.trans (World.drewN_drewN _ _ _) (congrArg (World.drewN _) (Nat.add_assoc _ _ _))⟩)) | (go_at_call 23; (with_reducible refine (field_Put.calls t157 (wrap64 (Int.tmod a2 64)) (wrap64 (1 + (Int.tmod (wrap64 (a3)) (wrap64 (64 - (wrap64 (Int.tmod a2 64))))))) t163 t164 _ A23.out).mono ?_); rintro e w' ⟨rfl, ⟨nd, rfl⟩⟩; (try first | exact ⟨rfl, _, World.drewN_drewN _ _ _⟩ | exact ⟨rfl, _, Eq.trans (World.drewN_drewN _ _ _) (congrArg (World.drewN _) (Nat.add_assoc _ _ _))⟩))); try go_wp2_with (first | (go_at_call 20; (with_reducible refine (mantletlaw01_awake.calls kj11  true _ A17.out).mono ?_); rintro e w24 ⟨rfl, hb⟩; have n0_ := Aside0.mk (below_step (by repeat (first | (with_reducible first | exact HB.out | apply below_alloc | apply pw_below_drewN | apply below_drew1) | exact HB.out)) hb); clear HB; have HB := n0_; clear n0_; (try clear hb); (try clear hb2); (try clear hk); (try clear hi)) | (go_at_call 21; (with_reducible refine (field_Get.calls t157 (wrap64 (Int.tmod a2 64)) (wrap64 (1 + (Int.tmod (wrap64 (a3)) (wrap64 (64 - (wrap64 (Int.tmod a2 64))))))) t161 _ A19.out).mono ?_); rintro e w' ⟨rfl, ⟨nd, rfl⟩⟩; (try first | exact ⟨rfl, _, World.drewN_drewN _ _ _⟩ | exact ⟨rfl, _, Eq.trans (World.drewN_drewN _ _ _) (congrArg (World.drewN _) (Nat.add_assoc _ _ _))⟩)) | (go_at_call 21; (with_reducible refine (field_Get.calls a1 0 (wrap64 (1 + (Int.tmod (wrap64 (a3)) (wrap64 (64 - (wrap64 (Int.tmod a2 64))))))) t162 _ A20.out).mono ?_); rintro e w' ⟨rfl, ⟨nd, rfl⟩⟩; (try first | exact ⟨rfl, _, World.drewN_drewN _ _ _⟩ | exact ⟨rfl, _, Eq.trans (World.drewN_drewN _ _ _) (congrArg (World.drewN _) (Nat.add_assoc _ _ _))⟩)) | (go_at_call 21; (with_reducible refine (field_Get.calls a0 (wrap64 (Int.tmod a2 64)) (wrap64 (1 + (Int.tmod (wrap64 (a3)) (wrap64 (64 - (wrap64 (Int.tmod a2 64))))))) t163 _ A22.out).mono ?_); rintro e w' ⟨rfl, ⟨nd, rfl⟩⟩; (try first | exact ⟨rfl, _, World.drewN_drewN _ _ _⟩ | exact ⟨rfl, _, Eq.trans (World.drewN_drewN _ _ _) (congrArg (World.drewN _) (Nat.add_assoc _ _ _))⟩)) | (go_at_call 23; (with_reducible refine (field_Put.calls t157 (wrap64 (Int.tmod a2 64)) (wrap64 (1 + (Int.tmod (wrap64 (a3)) (wrap64 (64 - (wrap64 (Int.tmod a2 64))))))) t163 t164 _ A23.out).mono ?_); rintro e w' ⟨rfl, ⟨nd, rfl⟩⟩; (try first | exact ⟨rfl, _, World.drewN_drewN _ _ _⟩ | exact ⟨rfl, _, Eq.trans (World.drewN_drewN _ _ _) (congrArg (World.drewN _) (Nat.add_assoc _ _ _))⟩))))
                  go_ret
                  exact ⟨by first | rfl | (simp [errW_none, errW_some] <;> rfl) | (simp [*, errW_none, errW_some] <;> rfl), by repeat (first | (with_reducible first | exact HB.out | apply below_alloc | apply pw_below_drewN | apply below_drew1) | exact HB.out)⟩
                · rw [if_neg c21] at H
                  have c21b0 : (t161 == t162) = false := beq_eq_false_iff_ne.mpr c21
                  have c21b1 : (t161 != t162) = true := bne_iff_ne.mpr c21
                  obtain rfl := Option.some.inj H
                  go_wp2_with (first | (go_at_call 20; (with_reducible refine (mantletlaw01_awake.calls kj11  true _ A17.out).mono ?_); rintro e w25 ⟨rfl, hb⟩; have n0_ := Aside0.mk (below_step (by repeat (first | (with_reducible first | exact HB.out | apply below_alloc | apply pw_below_drewN | apply below_drew1) | exact HB.out)) hb); clear HB; have HB := n0_; clear n0_; (try clear hb); (try clear hb2); (try clear hk); (try clear hi)) | (go_at_call 21; (with_reducible refine (field_Get.calls t157 (wrap64 (Int.tmod a2 64)) (wrap64 (1 + (Int.tmod (wrap64 (a3)) (wrap64 (64 - (wrap64 (Int.tmod a2 64))))))) t161 _ A19.out).mono ?_); rintro e w' ⟨rfl, ⟨nd, rfl⟩⟩; (try first | exact ⟨rfl, _, World.drewN_drewN _ _ _⟩ | exact ⟨rfl, _, Eq.trans (World.drewN_drewN _ _ _) (congrArg (World.drewN _) (Nat.add_assoc _ _ _))⟩)) | (go_at_call 21; (with_reducible refine (field_Get.calls a1 0 (wrap64 (1 + (Int.tmod (wrap64 (a3)) (wrap64 (64 - (wrap64 (Int.tmod a2 64))))))) t162 _ A20.out).mono ?_); rintro e w' ⟨rfl, ⟨nd, rfl⟩⟩; (try first | exact ⟨rfl, _, World.drewN_drewN _ _ _⟩ | exact ⟨rfl, _, Eq.trans (World.drewN_drewN _ _ _) (congrArg (World.drewN _) (Nat.add_assoc _ _ _))⟩)))
                  repeat (go_quiet (first | (go_at_call 20; (with_reducible refine (mantletlaw01_awake.calls kj11  true _ A17.out).mono ?_); rintro e w25 ⟨rfl, hb⟩; have n0_ := Aside0.mk (below_step (by repeat (first | (with_reducible first | exact HB.out | apply below_alloc | apply pw_below_drewN | apply below_drew1) | exact HB.out)) hb); clear HB; have HB := n0_; clear n0_; (try clear hb); (try clear hb2); (try clear hk); (try clear hi)) | (go_at_call 21; (with_reducible refine (field_Get.calls t157 (wrap64 (Int.tmod a2 64)) (wrap64 (1 + (Int.tmod (wrap64 (a3)) (wrap64 (64 - (wrap64 (Int.tmod a2 64))))))) t161 _ A19.out).mono ?_); rintro e w' ⟨rfl, ⟨nd, rfl⟩⟩; (try first | exact ⟨rfl, _, World.drewN_drewN _ _ _⟩ | exact ⟨rfl, _, Eq.trans (World.drewN_drewN _ _ _) (congrArg (World.drewN _) (Nat.add_assoc _ _ _))⟩)) | (go_at_call 21; (with_reducible refine (field_Get.calls a1 0 (wrap64 (1 + (Int.tmod (wrap64 (a3)) (wrap64 (64 - (wrap64 (Int.tmod a2 64))))))) t162 _ A20.out).mono ?_); rintro e w' ⟨rfl, ⟨nd, rfl⟩⟩; (try first | exact ⟨rfl, _, World.drewN_drewN _ _ _⟩ | exact ⟨rfl, _, Eq.trans (World.drewN_drewN _ _ _) (congrArg (World.drewN _) (Nat.add_assoc _ _ _))⟩))); try go_wp2_with (first | (go_at_call 20; (with_reducible refine (mantletlaw01_awake.calls kj11  true _ A17.out).mono ?_); rintro e w25 ⟨rfl, hb⟩; have n0_ := Aside0.mk (below_step (by repeat (first | (with_reducible first | exact HB.out | apply below_alloc | apply pw_below_drewN | apply below_drew1) | exact HB.out)) hb); clear HB; have HB := n0_; clear n0_; (try clear hb); (try clear hb2); (try clear hk); (try clear hi)) | (go_at_call 21; (with_reducible refine (field_Get.calls t157 (wrap64 (Int.tmod a2 64)) (wrap64 (1 + (Int.tmod (wrap64 (a3)) (wrap64 (64 - (wrap64 (Int.tmod a2 64))))))) t161 _ A19.out).mono ?_); rintro e w' ⟨rfl, ⟨nd, rfl⟩⟩; (try first | exact ⟨rfl, _, World.drewN_drewN _ _ _⟩ | exact ⟨rfl, _, Eq.trans (World.drewN_drewN _ _ _) (congrArg (World.drewN _) (Nat.add_assoc _ _ _))⟩)) | (go_at_call 21; (with_reducible refine (field_Get.calls a1 0 (wrap64 (1 + (Int.tmod (wrap64 (a3)) (wrap64 (64 - (wrap64 (Int.tmod a2 64))))))) t162 _ A20.out).mono ?_); rintro e w' ⟨rfl, ⟨nd, rfl⟩⟩; (try first | exact ⟨rfl, _, World.drewN_drewN _ _ _⟩ | exact ⟨rfl, _, Eq.trans (World.drewN_drewN _ _ _) (congrArg (World.drewN _) (Nat.add_assoc _ _ _))⟩))))
                  go_ret
                  exact ⟨by first | rfl | (simp [errW_none, errW_some] <;> rfl) | (simp [*, errW_none, errW_some] <;> rfl), by repeat (first | (with_reducible first | exact HB.out | apply below_alloc | apply pw_below_drewN | apply below_drew1) | exact HB.out)⟩
              · replace c18 := Bool.eq_false_iff.mpr c18
                subst c18
                have H1 : (some false) = some r := by rw [if_neg (show ¬ (false = true) by decide)] at H; exact H
                clear H
                have H := H1
                clear H1
                obtain rfl := Option.some.inj H
                go_wp2_with (first | (go_at_call 20; (with_reducible refine (mantletlaw01_awake.calls kj11  false _ A17.out).mono ?_); rintro e w26 ⟨rfl, hb⟩; have n0_ := Aside0.mk (below_step (by repeat (first | (with_reducible first | exact HB.out | apply below_alloc | apply pw_below_drewN | apply below_drew1) | exact HB.out)) hb); clear HB; have HB := n0_; clear n0_; (try clear hb); (try clear hb2); (try clear hk); (try clear hi)))
                repeat (go_quiet (first | (go_at_call 20; (with_reducible refine (mantletlaw01_awake.calls kj11  false _ A17.out).mono ?_); rintro e w26 ⟨rfl, hb⟩; have n0_ := Aside0.mk (below_step (by repeat (first | (with_reducible first | exact HB.out | apply below_alloc | apply pw_below_drewN | apply below_drew1) | exact HB.out)) hb); clear HB; have HB := n0_; clear n0_; (try clear hb); (try clear hb2); (try clear hk); (try clear hi))); try go_wp2_with (first | (go_at_call 20; (with_reducible refine (mantletlaw01_awake.calls kj11  false _ A17.out).mono ?_); rintro e w26 ⟨rfl, hb⟩; have n0_ := Aside0.mk (below_step (by repeat (first | (with_reducible first | exact HB.out | apply below_alloc | apply pw_below_drewN | apply below_drew1) | exact HB.out)) hb); clear HB; have HB := n0_; clear n0_; (try clear hb); (try clear hb2); (try clear hk); (try clear hi))))
                go_ret
                exact ⟨by first | rfl | (simp [errW_none, errW_some] <;> rfl) | (simp [*, errW_none, errW_some] <;> rfl), by repeat (first | (with_reducible first | exact HB.out | apply below_alloc | apply pw_below_drewN | apply below_drew1) | exact HB.out)⟩

/-- THE ONE PURE STATEMENT of mantletlaw01_FieldApart: yours. -/
def mantletlaw01_FieldApart.Pure : Prop := ∀ (a0 : Int) (a1 : Int) (a2 : Int) (a3 : Int) (a4 : Int) (a5 : Int), (Lit.int .u64 a0).wf = true → (Lit.int .u64 a1).wf = true → (Lit.int .u8 a2).wf = true → (Lit.int .u8 a3).wf = true → (Lit.int .u8 a4).wf = true → (Lit.int .u8 a5).wf = true → ∃ k, mantletlaw01_FieldApart.f k a0 a1 a2 a3 a4 a5 = some true
theorem mantletlaw01_FieldApart.walk (P : mantletlaw01_FieldApart.Pure) (a0 : Int) (a1 : Int) (a2 : Int) (a3 : Int) (a4 : Int) (a5 : Int) (w : World) (w0 : (Lit.int .u64 a0).wf = true) (w1 : (Lit.int .u64 a1).wf = true) (w2 : (Lit.int .u8 a2).wf = true) (w3 : (Lit.int .u8 a3).wf = true) (w4 : (Lit.int .u8 a4).wf = true) (w5 : (Lit.int .u8 a5).wf = true) :
    Calls Try.prog 11 #[.int .u64 a0, .int .u64 a1, .int .u8 a2, .int .u8 a3, .int .u8 a4, .int .u8 a5] w fun e w' => e = .returned (.bool true) ∧ Below w.heap.size w w' := by
  obtain ⟨k, h⟩ := P a0 a1 a2 a3 a4 a5 w0 w1 w2 w3 w4 w5
  refine (mantletlaw01_FieldApart.calls k a0 a1 a2 a3 a4 a5 true w h).mono ?_
  rintro e w' ⟨rfl, hd⟩
  exact ⟨rfl, hd⟩

end Go.Proofs.Ytjmdidbhocmhgaa.Fld
