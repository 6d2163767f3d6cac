-- Made by a program of this workplace (wip/pr.sh) out of Lean's print of the translation; Lean checks it.
import Derived.Test.YtjmdidbhocmhgaaFldx0
namespace Go.Proofs.Ytjmdidbhocmhgaa.Fld
open Go.RowKit Go.Proofs.YtjmdidbhocmhgaaW.PrintWords Go.Proofs.YtjmdidbhocmhgaaW.PrintLast Go.Proofs.YtjmdidbhocmhgaaW.PrintMore
attribute [local go_sem] max2_int min2_int max_two min_two max_three min_three max_four min_four   -- for this text's walks alone
set_option linter.unusedVariables false
set_option linter.unusedSimpArgs false

/-! ### mantletref01_Put: function 24 -/
mutual
def mantletref01_Put.j0 : Nat → Int → Int → Int → Int → Bool → Option (Int)
  | 0, _, _, _, _, _ => none
  | k + 1, x0, x1, x2, x3, x27 => if x27 = true then (some x0) else (mantletref01_Put.l0 k x0 x1 x2 x3 0 63)
def mantletref01_Put.l0 : Nat → Int → Int → Int → Int → Int → Int → Option (Int)
  | 0, _, _, _, _, _, _ => none
  | k + 1, x0, x1, x2, x3, x9, x10 => if x10 ≥ 0 then (if 0 ≤ (IntKind.u64.wrap (x10)) then (if x10 ≥ x1 then (if x10 < (wrap64 (x1 + x2)) then (if 0 ≤ (IntKind.u64.wrap (wrap64 (x10 - x1))) then (mantletref01_Put.l0 k x0 x1 x2 x3 (IntKind.u64.wrap ((IntKind.u64.wrap (x9 * 2)) + (Go.bits .and .u64 (shr .u64 x3 (IntKind.u64.wrap (wrap64 (x10 - x1)))) 1))) (wrap64 (x10 - 1))) else (none)) else (mantletref01_Put.l0 k x0 x1 x2 x3 (IntKind.u64.wrap ((IntKind.u64.wrap (x9 * 2)) + (Go.bits .and .u64 (shr .u64 x0 (IntKind.u64.wrap (x10))) 1))) (wrap64 (x10 - 1)))) else (mantletref01_Put.l0 k x0 x1 x2 x3 (IntKind.u64.wrap ((IntKind.u64.wrap (x9 * 2)) + (Go.bits .and .u64 (shr .u64 x0 (IntKind.u64.wrap (x10))) 1))) (wrap64 (x10 - 1)))) else (none)) else (some x9)
end
def mantletref01_Put.f (k : Nat) (a0 : Int) (a1 : Int) (a2 : Int) (a3 : Int) : Option (Int) := if a1 < 0 then (mantletref01_Put.j0 k a0 a1 a2 a3 true) else (if a2 < 1 then (mantletref01_Put.j0 k a0 a1 a2 a3 true) else (if a2 > 64 then (mantletref01_Put.j0 k a0 a1 a2 a3 true) else (mantletref01_Put.j0 k a0 a1 a2 a3 (decide (a1 > (wrap64 (64 - a2)))))))
theorem mantletref01_Put.mono_l : ∀ k, (∀ y0 y1 y2 y3 y4, LeO (mantletref01_Put.j0 k y0 y1 y2 y3 y4) (mantletref01_Put.j0 (k + 1) y0 y1 y2 y3 y4)) ∧ (∀ y0 y1 y2 y3 y4 y5, LeO (mantletref01_Put.l0 k y0 y1 y2 y3 y4 y5) (mantletref01_Put.l0 (k + 1) y0 y1 y2 y3 y4 y5))
  | 0 => ⟨fun _ _ _ _ _ r h => by simp [mantletref01_Put.j0] at h, fun _ _ _ _ _ _ r h => by simp [mantletref01_Put.l0] at h⟩
  | k + 1 => by
    obtain ⟨ih0, ih1⟩ := mantletref01_Put.mono_l k
    refine ⟨?_, ?_⟩
    · intro y0 y1 y2 y3 y4
      unfold mantletref01_Put.j0
      repeat' first
      | (with_reducible exact ih0 _ _ _ _ _)
      | (with_reducible exact ih1 _ _ _ _ _ _)
      | (with_reducible exact LeO.refl _)
      | (with_reducible exact LeO.none _)
      | (with_reducible refine LeO.ite ?_ ?_)
      | (with_reducible refine LeO.bind ?_ (fun _ => ?_))
      | exact ih0 _ _ _ _ _
      | exact ih1 _ _ _ _ _ _
      | exact LeO.none _
      | refine LeO.ite ?_ ?_
      | refine LeO.bind ?_ (fun _ => ?_)
    · intro y0 y1 y2 y3 y4 y5
      unfold mantletref01_Put.l0
      repeat' first
      | (with_reducible exact ih0 _ _ _ _ _)
      | (with_reducible exact ih1 _ _ _ _ _ _)
      | (with_reducible exact LeO.refl _)
      | (with_reducible exact LeO.none _)
      | (with_reducible refine LeO.ite ?_ ?_)
      | (with_reducible refine LeO.bind ?_ (fun _ => ?_))
      | exact ih0 _ _ _ _ _
      | exact ih1 _ _ _ _ _ _
      | exact LeO.none _
      | refine LeO.ite ?_ ?_
      | refine LeO.bind ?_ (fun _ => ?_)
theorem mantletref01_Put.mono : ∀ a0 a1 a2 a3 k, LeO (mantletref01_Put.f k a0 a1 a2 a3) (mantletref01_Put.f (k + 1) a0 a1 a2 a3) := by
  intro a0 a1 a2 a3 k
  obtain ⟨ih0, ih1⟩ := mantletref01_Put.mono_l k
  unfold mantletref01_Put.f
  repeat' first
      | (with_reducible exact ih0 _ _ _ _ _)
      | (with_reducible exact ih1 _ _ _ _ _ _)
      | (with_reducible exact LeO.refl _)
      | (with_reducible exact LeO.none _)
      | (with_reducible refine LeO.ite ?_ ?_)
      | (with_reducible refine LeO.bind ?_ (fun _ => ?_))
      | exact ih0 _ _ _ _ _
      | exact ih1 _ _ _ _ _ _
      | exact LeO.none _
      | refine LeO.ite ?_ ?_
      | refine LeO.bind ?_ (fun _ => ?_)
set_option maxHeartbeats 8000000 in
set_option maxRecDepth 100000 in
theorem mantletref01_Put.calls (k : Nat) (a0 : Int) (a1 : Int) (a2 : Int) (a3 : Int) (r : Int) (w : World) (h : mantletref01_Put.f k a0 a1 a2 a3 = some r) :
    Calls Try.prog 24 #[.int .u64 a0, .int .i64 a1, .int .i64 a2, .int .u64 a3] w fun e w' => e = .returned (.int .u64 r) ∧ Drawn0 w w' := by
  have H : (if a1 < 0 then (mantletref01_Put.j0 k a0 a1 a2 a3 true) else (if a2 < 1 then (mantletref01_Put.j0 k a0 a1 a2 a3 true) else (if a2 > 64 then (mantletref01_Put.j0 k a0 a1 a2 a3 true) else (mantletref01_Put.j0 k a0 a1 a2 a3 (decide (a1 > (wrap64 (64 - a2)))))))) = some r := h
  clear h
  have HC5 := Aside0.mk H
  clear H
  go_enter Try.func24, Try.ntmps24
  go_upto_region 1 with (fail)
  go_cut [27] (fun v27 wc => ∃ (kq : Nat) (x27_4 : Bool), v27 = .bool x27_4 ∧ Aside0 (mantletref01_Put.j0 kq a0 a1 a2 a3 x27_4 = some r) ∧ Aside0 (kq ≤ k) ∧ Drawn0 w wc)
  case first =>
    have H := HC5.out
    clear HC5
    by_cases c6 : a1 < 0
    · rw [if_pos c6] at H
      have c6b0 : decide (a1 < 0) = true := decide_eq_true c6
      clear c6
      (first | rw [c6b0] | (simp only [i64_w, i32_w]; rw [c6b0]) | skip)
      have H' := Aside0.mk H
      clear H
      go_wp2
      go_meet
      case rel => exact ⟨_, (true), (by first | rfl | (simp; done) | (simp [*]; done)), H', ⟨by first | omega | exact Nat.le_refl _⟩, by repeat (first | exact Drawn0.refl _ | apply Drawn0.step)⟩
    · rw [if_neg c6] at H
      have c6b0 : decide (a1 < 0) = false := decide_eq_false c6
      clear c6
      (first | rw [c6b0] | (simp only [i64_w, i32_w]; rw [c6b0]) | skip)
      by_cases c7 : a2 < 1
      · rw [if_pos c7] at H
        have c7b0 : decide (a2 < 1) = true := decide_eq_true c7
        clear c7
        have H' := Aside0.mk H
        clear H
        go_wp2
        go_meet
        case rel => exact ⟨_, (true), (by first | rfl | (simp; done) | (simp [*]; done)), H', ⟨by first | omega | exact Nat.le_refl _⟩, by repeat (first | exact Drawn0.refl _ | apply Drawn0.step)⟩
      · rw [if_neg c7] at H
        have c7b0 : decide (a2 < 1) = false := decide_eq_false c7
        clear c7
        by_cases c8 : a2 > 64
        · rw [if_pos c8] at H
          have c8b0 : decide (64 < a2) = true := decide_eq_true c8
          clear c8
          have H' := Aside0.mk H
          clear H
          go_wp2
          go_meet
          case rel => exact ⟨_, (true), (by first | rfl | (simp; done) | (simp [*]; done)), H', ⟨by first | omega | exact Nat.le_refl _⟩, by repeat (first | exact Drawn0.refl _ | apply Drawn0.step)⟩
        · rw [if_neg c8] at H
          have c8b0 : decide (64 < a2) = false := decide_eq_false c8
          clear c8
          have H' := Aside0.mk H
          clear H
          go_wp2
          go_meet
          case rel => exact ⟨_, (decide (a1 > (wrap64 (64 - a2)))), (by first | rfl | (simp; done) | (simp [*]; done)), H', ⟨by first | omega | exact Nat.le_refl _⟩, by repeat (first | exact Drawn0.refl _ | apply Drawn0.step)⟩
  case rest =>
    clear HC5
    try clear c2
    try clear p2
    try clear c6
    try clear c6b0
    try clear p6
    try clear c7
    try clear c7b0
    try clear c8
    try clear c8b0
    obtain ⟨kq, x27_4, rfl, HA, HJ4, ⟨mc4, rfl⟩⟩ := hcut
    cases kq with
    | zero => exact absurd HA.out (by simp [mantletref01_Put.j0])
    | succ kj4 =>
      have H := HA.out
      clear HA
      simp only [mantletref01_Put.j0] at H
      by_cases c9 : x27_4 = true
      · subst c9
        have H1 : (some a0) = some r := by rw [if_pos rfl] at H; exact H
        clear H
        have H := H1
        clear H1
        obtain rfl := Option.some.inj H
        go_wp2
        go_ret
        exact ⟨by first | rfl | (simp; done) | (simp [*]; done), by repeat (first | exact Drawn0.refl _ | apply Drawn0.step)⟩
      · replace c9 := Bool.eq_false_iff.mpr c9
        subst c9
        have H1 : (mantletref01_Put.l0 kj4 a0 a1 a2 a3 0 63) = some r := by rw [if_neg (show ¬ (false = true) by decide)] at H; exact H
        clear H
        have H := H1
        clear H1
        have H' := Aside0.mk H
        clear H
        go_wp2
        go_loopg [9, 10] kj4 (fun kq v9 v10 w' => ∃ (x9_2 : Int) (x10_2 : Int), v9 = .int .u64 x9_2 ∧ v10 = .int .i64 x10_2 ∧ Aside0 (mantletref01_Put.l0 kq a0 a1 a2 a3 x9_2 x10_2 = some r) ∧ Aside0 (kq ≤ kj4) ∧ Drawn0 w w')
        case atStart => exact ⟨(0), (63), (by first | rfl | (simp; done) | (simp [*]; done)), (by first | rfl | (simp; done) | (simp [*]; done)), H', ⟨Nat.le_refl _⟩, by repeat (first | exact Drawn0.refl _ | apply Drawn0.step)⟩
        case round =>
          clear H'
          try clear c2
          try clear p2
          try clear c4
          try clear c6
          try clear c6b0
          try clear p6
          try clear c7
          try clear c7b0
          try clear c8
          try clear c8b0
          try clear c9
          try clear p2
          try clear p6
          obtain ⟨x9_2, x10_2, rfl, rfl, HA, HK2, ⟨m2, rfl⟩⟩ := hrel
          cases gk with
          | zero => exact absurd HA.out (by simp [mantletref01_Put.l0])
          | succ k2 =>
            have H := HA.out
            clear HA
            simp only [mantletref01_Put.l0] at H
            by_cases c10 : x10_2 ≥ 0
            · rw [if_pos c10] at H
              have c10b0 : decide (0 ≤ x10_2) = true := decide_eq_true c10
              clear c10
              obtain ⟨ji11, hji11⟩ : ∃ j_ : Int, (IntKind.u64.wrap (x10_2)) = j_ := ⟨_, rfl⟩
              replace H : (if 0 ≤ (ji11) then (if x10_2 ≥ a1 then (if x10_2 < (wrap64 (a1 + a2)) then (if 0 ≤ (IntKind.u64.wrap (wrap64 (x10_2 - a1))) then (mantletref01_Put.l0 k2 a0 a1 a2 a3 (IntKind.u64.wrap ((IntKind.u64.wrap (x9_2 * 2)) + (Go.bits .and .u64 (shr .u64 a3 (IntKind.u64.wrap (wrap64 (x10_2 - a1)))) 1))) (wrap64 (x10_2 - 1))) else (none)) else (mantletref01_Put.l0 k2 a0 a1 a2 a3 (IntKind.u64.wrap ((IntKind.u64.wrap (x9_2 * 2)) + (Go.bits .and .u64 (shr .u64 a0 (ji11)) 1))) (wrap64 (x10_2 - 1)))) else (mantletref01_Put.l0 k2 a0 a1 a2 a3 (IntKind.u64.wrap ((IntKind.u64.wrap (x9_2 * 2)) + (Go.bits .and .u64 (shr .u64 a0 (ji11)) 1))) (wrap64 (x10_2 - 1)))) else (none)) = some r := by first | (rw [hji11] at H; exact H) | (simp only [hji11] at H ⊢; exact H)
              by_cases c12 : 0 ≤ (ji11)
              · rw [if_pos c12] at H
                have c12b0 := eq_true c12
                have c12b1 : decide (0 ≤ (ji11)) = true := decide_eq_true c12
                clear c12
                obtain ⟨ji13, hji13⟩ : ∃ j_ : Int, (shr .u64 a0 (ji11)) = j_ := ⟨_, rfl⟩
                replace H : (if x10_2 ≥ a1 then (if x10_2 < (wrap64 (a1 + a2)) then (if 0 ≤ (IntKind.u64.wrap (wrap64 (x10_2 - a1))) then (mantletref01_Put.l0 k2 a0 a1 a2 a3 (IntKind.u64.wrap ((IntKind.u64.wrap (x9_2 * 2)) + (Go.bits .and .u64 (shr .u64 a3 (IntKind.u64.wrap (wrap64 (x10_2 - a1)))) 1))) (wrap64 (x10_2 - 1))) else (none)) else (mantletref01_Put.l0 k2 a0 a1 a2 a3 (IntKind.u64.wrap ((IntKind.u64.wrap (x9_2 * 2)) + (Go.bits .and .u64 (ji13) 1))) (wrap64 (x10_2 - 1)))) else (mantletref01_Put.l0 k2 a0 a1 a2 a3 (IntKind.u64.wrap ((IntKind.u64.wrap (x9_2 * 2)) + (Go.bits .and .u64 (ji13) 1))) (wrap64 (x10_2 - 1)))) = some r := by first | (rw [hji13] at H; exact H) | (simp only [hji13] at H ⊢; exact H)
                have hji13_ : (a0 / 2 ^ min (ji11).toNat 64) = ji13 := hji13
                have hji13z : (ji11) ≤ 64 → (a0 / 2 ^ (ji11).toNat) = ji13 := shr_small hji13
                by_cases c14 : x10_2 ≥ a1
                · rw [if_pos c14] at H
                  have c14b0 : decide (a1 ≤ x10_2) = true := decide_eq_true c14
                  clear c14
                  by_cases c15 : x10_2 < (wrap64 (a1 + a2))
                  · rw [if_pos c15] at H
                    have c15b0 : decide (x10_2 < (wrap64 (a1 + a2))) = true := decide_eq_true c15
                    clear c15
                    obtain ⟨ji16, hji16⟩ : ∃ j_ : Int, (IntKind.u64.wrap (wrap64 (x10_2 - a1))) = j_ := ⟨_, rfl⟩
                    replace H : (if 0 ≤ (ji16) then (mantletref01_Put.l0 k2 a0 a1 a2 a3 (IntKind.u64.wrap ((IntKind.u64.wrap (x9_2 * 2)) + (Go.bits .and .u64 (shr .u64 a3 (ji16)) 1))) (wrap64 (x10_2 - 1))) else (none)) = some r := by first | (rw [hji16] at H; exact H) | (simp only [hji16] at H ⊢; exact H)
                    by_cases c17 : 0 ≤ (ji16)
                    · rw [if_pos c17] at H
                      have c17b0 := eq_true c17
                      have c17b1 : decide (0 ≤ (ji16)) = true := decide_eq_true c17
                      clear c17
                      obtain ⟨ji18, hji18⟩ : ∃ j_ : Int, (shr .u64 a3 (ji16)) = j_ := ⟨_, rfl⟩
                      replace H : (mantletref01_Put.l0 k2 a0 a1 a2 a3 (IntKind.u64.wrap ((IntKind.u64.wrap (x9_2 * 2)) + (Go.bits .and .u64 (ji18) 1))) (wrap64 (x10_2 - 1))) = some r := by first | (rw [hji18] at H; exact H) | (simp only [hji18] at H ⊢; exact H)
                      have hji18_ : (a3 / 2 ^ min (ji16).toNat 64) = ji18 := hji18
                      have hji18z : (ji16) ≤ 64 → (a3 / 2 ^ (ji16).toNat) = ji18 := shr_small hji18
                      have H' := Aside0.mk H
                      clear H
                      go_wp2
                      go_roundg k2
                      case measure => have := HJ4.out; have := HK2.out; omega
                      case rel => exact ⟨(IntKind.u64.wrap ((IntKind.u64.wrap (x9_2 * 2)) + (Go.bits .and .u64 (ji18) 1))), (wrap64 (x10_2 - 1)), (by first | rfl | (simp; done) | (simp only [← hji18] <;> (first | rfl | simp)) | (simp [*]; done)), (by first | rfl | (simp; done) | (simp [*]; done)), H', ⟨by have := HJ4.out; have := HK2.out; omega⟩, by repeat (first | exact Drawn0.refl _ | apply Drawn0.step)⟩
                    · rw [if_neg c17] at H
                      exact absurd H (by simp)
                  · rw [if_neg c15] at H
                    have c15b0 : decide (x10_2 < (wrap64 (a1 + a2))) = false := decide_eq_false c15
                    clear c15
                    have H' := Aside0.mk H
                    clear H
                    go_wp2
                    go_roundg k2
                    case measure => have := HJ4.out; have := HK2.out; omega
                    case rel => exact ⟨(IntKind.u64.wrap ((IntKind.u64.wrap (x9_2 * 2)) + (Go.bits .and .u64 (ji13) 1))), (wrap64 (x10_2 - 1)), (by first | rfl | (simp; done) | (simp only [← hji13] <;> (first | rfl | simp)) | (simp [*]; done)), (by first | rfl | (simp; done) | (simp [*]; done)), H', ⟨by have := HJ4.out; have := HK2.out; omega⟩, by repeat (first | exact Drawn0.refl _ | apply Drawn0.step)⟩
                · rw [if_neg c14] at H
                  have c14b0 : decide (a1 ≤ x10_2) = false := decide_eq_false c14
                  clear c14
                  have H' := Aside0.mk H
                  clear H
                  go_wp2
                  go_roundg k2
                  case measure => have := HJ4.out; have := HK2.out; omega
                  case rel => exact ⟨(IntKind.u64.wrap ((IntKind.u64.wrap (x9_2 * 2)) + (Go.bits .and .u64 (ji13) 1))), (wrap64 (x10_2 - 1)), (by first | rfl | (simp; done) | (simp only [← hji13] <;> (first | rfl | simp)) | (simp [*]; done)), (by first | rfl | (simp; done) | (simp [*]; done)), H', ⟨by have := HJ4.out; have := HK2.out; omega⟩, by repeat (first | exact Drawn0.refl _ | apply Drawn0.step)⟩
              · rw [if_neg c12] at H
                exact absurd H (by simp)
            · rw [if_neg c10] at H
              have c10b0 : decide (0 ≤ x10_2) = false := decide_eq_false c10
              clear c10
              obtain rfl := Option.some.inj H
              go_wp2
              go_ret
              exact ⟨by first | rfl | (simp; done) | (simp [*]; done), by repeat (first | exact Drawn0.refl _ | apply Drawn0.step)⟩

end Go.Proofs.Ytjmdidbhocmhgaa.Fld
