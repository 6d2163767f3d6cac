-- Made by a program of this workplace (wip/pr.sh) out of Lean's print of the translation; Lean checks it.
import Derived.Test.YtofjgdbiieanjaaAllx0
import Derived.Test.YtofjgdbiieanjaaAllx49
namespace Go.Proofs.Ytofjgdbiieanjaa.All
open Go.Proofs.Ytofjgdbiieanjaa.Ext
open Go.RowKit Go.Proofs.YtofjgdbiieanjaaW.PrintWords Go.Proofs.YtofjgdbiieanjaaW.PrintLast Go.Proofs.YtofjgdbiieanjaaW.PrintMore
attribute [local go_sem] max2_int min2_int max_two min_two max_three min_three max_four min_four   -- for this text's walks alone
set_option linter.unusedVariables false
set_option linter.unusedSimpArgs false

/-! ### ip_size: function 76 -/
def ip_size.f (k : Nat) (l0 : List Int) : Option (Int × Int × Int) := if (l0.length : Int) > 1500 then (some (0, 0, 2)) else (if (l0.length : Int) < 20 then (some (0, 0, 4)) else (if 0 < (l0.length : Int) then (if ((rd l0 0) / 16) = 4 then ((ip_num.f k l0 2 2).bind fun t658 => (if (wrap64 ((wrap64 (Go.bits .and .u8 (rd l0 0) 15)) * 4)) < 20 then (some (0, 0, 6)) else (if (l0.length : Int) < (wrap64 ((wrap64 (Go.bits .and .u8 (rd l0 0) 15)) * 4)) then (some (0, 0, 4)) else (if t658 < (wrap64 ((wrap64 (Go.bits .and .u8 (rd l0 0) 15)) * 4)) then (some (0, 0, 4)) else (if (l0.length : Int) < t658 then (some (0, 0, 4)) else (some (wrap64 ((wrap64 (Go.bits .and .u8 (rd l0 0) 15)) * 4), t658, 0))))))) else (some (0, 0, 5))) else (none)))
theorem ip_size.mono : ∀ a0 k, LeO (ip_size.f k a0) (ip_size.f (k + 1) a0) := by
  intro a0 k
  unfold ip_size.f
  repeat' first
      | (with_reducible exact ip_num.mono _ _ _ _)
      | (with_reducible exact LeO.refl _)
      | (with_reducible exact LeO.none _)
      | (with_reducible refine LeO.ite ?_ ?_)
      | (with_reducible refine LeO.bind ?_ (fun _ => ?_))
      | exact ip_num.mono _ _ _ _
      | exact LeO.none _
      | refine LeO.ite ?_ ?_
      | refine LeO.bind ?_ (fun _ => ?_)
set_option maxHeartbeats 8000000 in
set_option maxRecDepth 100000 in
theorem ip_size.calls (k : Nat) (A0 : Option Addr) (c0 : Nat) (l0 : List Int) (r1 : Int) (r2 : Int) (r3 : Int) (w : World) (hr0 : Kd.C (Kd.int .u8) w A0 l0.length l0) (hc0 : l0.length ≤ c0) (h : ip_size.f k l0 = some (r1, r2, r3)) :
    Calls Try.prog 76 #[.slice A0 l0.length c0] w fun e w' => e = .returned (.tuple #[.int .i64 r1, .int .i64 r2, .int .i64 r3]) ∧ Drawn0 w w' := by
 have HR0 := aS hr0
 have HC0 := aS hc0
 clear hr0 hc0; have H := h
 unfold ip_size.f at H
 clear h
 by_cases c2 : (l0.length : Int) > 1500
 ·rw [if_pos c2] at H
  have c2b0 : decide (1500 < (l0.length : Int)) = true := decide_eq_true c2
  have c2b1 : decide (1500 < l0.length) = true := decide_eq_true (by omega)
  clear c2
  simp only [Option.some.injEq, Prod.mk.injEq] at H
  obtain ⟨rfl, rfl, rfl⟩ := H
  go_enter Try.func76, Try.ntmps76
  go_wp2
  repeat (go_quiet (fail); try go_wp2)
  go_ret3
  exact ⟨by first | rfl | (simp; done) | (simp [*]; done), by repeat (first | exact Drawn0.refl _ | apply Drawn0.step)⟩
 ·rw [if_neg c2] at H
  have c2b0 : decide (1500 < (l0.length : Int)) = false := decide_eq_false c2
  have c2b1 : decide (1500 < l0.length) = false := decide_eq_false (by omega)
  clear c2
  by_cases c3 : (l0.length : Int) < 20
  ·rw [if_pos c3] at H
   have c3b0 : decide ((l0.length : Int) < 20) = true := decide_eq_true c3
   have c3b1 : decide (l0.length < 20) = true := decide_eq_true (by omega)
   clear c3
   simp only [Option.some.injEq, Prod.mk.injEq] at H
   obtain ⟨rfl, rfl, rfl⟩ := H
   go_enter Try.func76, Try.ntmps76
   go_wp2
   repeat (go_quiet (fail); try go_wp2)
   go_ret3
   exact ⟨by first | rfl | (simp; done) | (simp [*]; done), by repeat (first | exact Drawn0.refl _ | apply Drawn0.step)⟩
  ·rw [if_neg c3] at H
   have c3b0 : decide ((l0.length : Int) < 20) = false := decide_eq_false c3
   have c3b1 : decide (l0.length < 20) = false := decide_eq_false (by omega)
   clear c3
   by_cases c4 : 0 < (l0.length : Int)
   ·rw [if_pos c4] at H
    have c4b0 : decide (0 < (l0.length : Int)) = true := decide_eq_true c4
    have c4b1 : decide (0 < l0.length) = true := decide_eq_true (by omega)
    clear c4
    by_cases c5 : ((rd l0 0) / 16) = 4
    ·rw [if_pos c5] at H
     have c5b0 : (((rd l0 0) / 16) == 4) = true := beq_iff_eq.mpr c5
     have c5b1 : (((rd l0 0) / 16) != 4) = false := bne_eq_false_iff_eq.mpr c5
     clear c5
     replace H := Option.bind_eq_some_iff.mp H
     obtain ⟨t658, A60, H⟩ := H
     try dsimp -simprocs only at H
     have A6 := aS A60
     clear A60
     by_cases c7 : (wrap64 ((wrap64 (Go.bits .and .u8 (rd l0 0) 15)) * 4)) < 20
     ·rw [if_pos c7] at H
      have c7b0 : decide ((wrap64 ((wrap64 (Go.bits .and .u8 (rd l0 0) 15)) * 4)) < 20) = true := decide_eq_true c7
      clear c7
      simp only [Option.some.injEq, Prod.mk.injEq] at H
      obtain ⟨rfl, rfl, rfl⟩ := H
      have p656 : 0 ≤ (0 : Int) := (by omega)
      have q656 : 0 < (l0.length : Int) := of_decide_eq_true (by first | (with_reducible assumption) | assumption)
      obtain ⟨ad656, e656, hx656_0⟩ := Kd.at_int HR0.out 0 p656 q656
      cases e656
      have qi656 : (0 < l0.length) = True := eq_true (by omega)
      (try rw [show ((0 : Int)).toNat = 0 from rfl] at hx656_0)
      (try rw [Addr.add_zero'] at hx656_0)
      replace p656 := eq_true p656
      replace q656 := eq_true q656
      have p657 : 0 ≤ (0 : Int) := (by omega)
      have q657 : 0 < (l0.length : Int) := of_decide_eq_true (by first | (with_reducible assumption) | assumption)
      obtain ⟨ad657, e657, hx657_0⟩ := Kd.at_int HR0.out 0 p657 q657
      obtain rfl : ad656 = ad657 := (by injection e657)
      have qi657 : (0 < l0.length) = True := eq_true (by omega)
      (try rw [show ((0 : Int)).toNat = 0 from rfl] at hx657_0)
      (try rw [Addr.add_zero'] at hx657_0)
      replace p657 := eq_true p657
      replace q657 := eq_true q657
      go_enter Try.func76, Try.ntmps76
      go_wp2_with (first | (go_at_call 77; (with_reducible refine (ip_num.calls k _ _ l0 2 2 t658 _ ?side1 ?side2 A6.out).mono ?_); (case side1 => repeat (first | exact HR0.out | (with_reducible refine Kd.C_alloc ?_ _) | (with_reducible refine Kd.C_drewN ?_ _) | (with_reducible refine Kd.C_drew ?_))); (case side2 => exact HC0.out); rintro e w' ⟨rfl, ⟨nd, rfl⟩⟩; (try first | exact ⟨rfl, _, World.drewN_drewN _ _ _⟩ | exact ⟨rfl, _, Eq.trans (World.drewN_drewN _ _ _) (congrArg (World.drewN _) (Nat.add_assoc _ _ _))⟩)))
      repeat (go_quiet (first | (go_at_call 77; (with_reducible refine (ip_num.calls k _ _ l0 2 2 t658 _ ?side1 ?side2 A6.out).mono ?_); (case side1 => repeat (first | exact HR0.out | (with_reducible refine Kd.C_alloc ?_ _) | (with_reducible refine Kd.C_drewN ?_ _) | (with_reducible refine Kd.C_drew ?_))); (case side2 => exact HC0.out); rintro e w' ⟨rfl, ⟨nd, rfl⟩⟩; (try first | exact ⟨rfl, _, World.drewN_drewN _ _ _⟩ | exact ⟨rfl, _, Eq.trans (World.drewN_drewN _ _ _) (congrArg (World.drewN _) (Nat.add_assoc _ _ _))⟩))); try go_wp2_with (first | (go_at_call 77; (with_reducible refine (ip_num.calls k _ _ l0 2 2 t658 _ ?side1 ?side2 A6.out).mono ?_); (case side1 => repeat (first | exact HR0.out | (with_reducible refine Kd.C_alloc ?_ _) | (with_reducible refine Kd.C_drewN ?_ _) | (with_reducible refine Kd.C_drew ?_))); (case side2 => exact HC0.out); rintro e w' ⟨rfl, ⟨nd, rfl⟩⟩; (try first | exact ⟨rfl, _, World.drewN_drewN _ _ _⟩ | exact ⟨rfl, _, Eq.trans (World.drewN_drewN _ _ _) (congrArg (World.drewN _) (Nat.add_assoc _ _ _))⟩))))
      go_ret3
      exact ⟨by first | rfl | (simp; done) | (simp [*]; done), by repeat (first | exact Drawn0.refl _ | apply Drawn0.step)⟩
     ·rw [if_neg c7] at H
      have c7b0 : decide ((wrap64 ((wrap64 (Go.bits .and .u8 (rd l0 0) 15)) * 4)) < 20) = false := decide_eq_false c7
      clear c7
      by_cases c8 : (l0.length : Int) < (wrap64 ((wrap64 (Go.bits .and .u8 (rd l0 0) 15)) * 4))
      ·rw [if_pos c8] at H
       have c8b0 : decide ((l0.length : Int) < (wrap64 ((wrap64 (Go.bits .and .u8 (rd l0 0) 15)) * 4))) = true := decide_eq_true c8
       clear c8
       simp only [Option.some.injEq, Prod.mk.injEq] at H
       obtain ⟨rfl, rfl, rfl⟩ := H
       have p656 : 0 ≤ (0 : Int) := (by omega)
       have q656 : 0 < (l0.length : Int) := of_decide_eq_true (by first | (with_reducible assumption) | assumption)
       obtain ⟨ad656, e656, hx656_0⟩ := Kd.at_int HR0.out 0 p656 q656
       cases e656
       have qi656 : (0 < l0.length) = True := eq_true (by omega)
       (try rw [show ((0 : Int)).toNat = 0 from rfl] at hx656_0)
       (try rw [Addr.add_zero'] at hx656_0)
       replace p656 := eq_true p656
       replace q656 := eq_true q656
       have p657 : 0 ≤ (0 : Int) := (by omega)
       have q657 : 0 < (l0.length : Int) := of_decide_eq_true (by first | (with_reducible assumption) | assumption)
       obtain ⟨ad657, e657, hx657_0⟩ := Kd.at_int HR0.out 0 p657 q657
       obtain rfl : ad656 = ad657 := (by injection e657)
       have qi657 : (0 < l0.length) = True := eq_true (by omega)
       (try rw [show ((0 : Int)).toNat = 0 from rfl] at hx657_0)
       (try rw [Addr.add_zero'] at hx657_0)
       replace p657 := eq_true p657
       replace q657 := eq_true q657
       go_enter Try.func76, Try.ntmps76
       go_wp2_with (first | (go_at_call 77; (with_reducible refine (ip_num.calls k _ _ l0 2 2 t658 _ ?side1 ?side2 A6.out).mono ?_); (case side1 => repeat (first | exact HR0.out | (with_reducible refine Kd.C_alloc ?_ _) | (with_reducible refine Kd.C_drewN ?_ _) | (with_reducible refine Kd.C_drew ?_))); (case side2 => exact HC0.out); rintro e w' ⟨rfl, ⟨nd, rfl⟩⟩; (try first | exact ⟨rfl, _, World.drewN_drewN _ _ _⟩ | exact ⟨rfl, _, Eq.trans (World.drewN_drewN _ _ _) (congrArg (World.drewN _) (Nat.add_assoc _ _ _))⟩)))
       repeat (go_quiet (first | (go_at_call 77; (with_reducible refine (ip_num.calls k _ _ l0 2 2 t658 _ ?side1 ?side2 A6.out).mono ?_); (case side1 => repeat (first | exact HR0.out | (with_reducible refine Kd.C_alloc ?_ _) | (with_reducible refine Kd.C_drewN ?_ _) | (with_reducible refine Kd.C_drew ?_))); (case side2 => exact HC0.out); rintro e w' ⟨rfl, ⟨nd, rfl⟩⟩; (try first | exact ⟨rfl, _, World.drewN_drewN _ _ _⟩ | exact ⟨rfl, _, Eq.trans (World.drewN_drewN _ _ _) (congrArg (World.drewN _) (Nat.add_assoc _ _ _))⟩))); try go_wp2_with (first | (go_at_call 77; (with_reducible refine (ip_num.calls k _ _ l0 2 2 t658 _ ?side1 ?side2 A6.out).mono ?_); (case side1 => repeat (first | exact HR0.out | (with_reducible refine Kd.C_alloc ?_ _) | (with_reducible refine Kd.C_drewN ?_ _) | (with_reducible refine Kd.C_drew ?_))); (case side2 => exact HC0.out); rintro e w' ⟨rfl, ⟨nd, rfl⟩⟩; (try first | exact ⟨rfl, _, World.drewN_drewN _ _ _⟩ | exact ⟨rfl, _, Eq.trans (World.drewN_drewN _ _ _) (congrArg (World.drewN _) (Nat.add_assoc _ _ _))⟩))))
       go_ret3
       exact ⟨by first | rfl | (simp; done) | (simp [*]; done), by repeat (first | exact Drawn0.refl _ | apply Drawn0.step)⟩
      ·rw [if_neg c8] at H
       have c8b0 : decide ((l0.length : Int) < (wrap64 ((wrap64 (Go.bits .and .u8 (rd l0 0) 15)) * 4))) = false := decide_eq_false c8
       clear c8
       by_cases c9 : t658 < (wrap64 ((wrap64 (Go.bits .and .u8 (rd l0 0) 15)) * 4))
       ·rw [if_pos c9] at H
        have c9b0 : decide (t658 < (wrap64 ((wrap64 (Go.bits .and .u8 (rd l0 0) 15)) * 4))) = true := decide_eq_true c9
        clear c9
        simp only [Option.some.injEq, Prod.mk.injEq] at H
        obtain ⟨rfl, rfl, rfl⟩ := H
        have p656 : 0 ≤ (0 : Int) := (by omega)
        have q656 : 0 < (l0.length : Int) := of_decide_eq_true (by first | (with_reducible assumption) | assumption)
        obtain ⟨ad656, e656, hx656_0⟩ := Kd.at_int HR0.out 0 p656 q656
        cases e656
        have qi656 : (0 < l0.length) = True := eq_true (by omega)
        (try rw [show ((0 : Int)).toNat = 0 from rfl] at hx656_0)
        (try rw [Addr.add_zero'] at hx656_0)
        replace p656 := eq_true p656
        replace q656 := eq_true q656
        have p657 : 0 ≤ (0 : Int) := (by omega)
        have q657 : 0 < (l0.length : Int) := of_decide_eq_true (by first | (with_reducible assumption) | assumption)
        obtain ⟨ad657, e657, hx657_0⟩ := Kd.at_int HR0.out 0 p657 q657
        obtain rfl : ad656 = ad657 := (by injection e657)
        have qi657 : (0 < l0.length) = True := eq_true (by omega)
        (try rw [show ((0 : Int)).toNat = 0 from rfl] at hx657_0)
        (try rw [Addr.add_zero'] at hx657_0)
        replace p657 := eq_true p657
        replace q657 := eq_true q657
        go_enter Try.func76, Try.ntmps76
        go_wp2_with (first | (go_at_call 77; (with_reducible refine (ip_num.calls k _ _ l0 2 2 t658 _ ?side1 ?side2 A6.out).mono ?_); (case side1 => repeat (first | exact HR0.out | (with_reducible refine Kd.C_alloc ?_ _) | (with_reducible refine Kd.C_drewN ?_ _) | (with_reducible refine Kd.C_drew ?_))); (case side2 => exact HC0.out); rintro e w' ⟨rfl, ⟨nd, rfl⟩⟩; (try first | exact ⟨rfl, _, World.drewN_drewN _ _ _⟩ | exact ⟨rfl, _, Eq.trans (World.drewN_drewN _ _ _) (congrArg (World.drewN _) (Nat.add_assoc _ _ _))⟩)))
        repeat (go_quiet (first | (go_at_call 77; (with_reducible refine (ip_num.calls k _ _ l0 2 2 t658 _ ?side1 ?side2 A6.out).mono ?_); (case side1 => repeat (first | exact HR0.out | (with_reducible refine Kd.C_alloc ?_ _) | (with_reducible refine Kd.C_drewN ?_ _) | (with_reducible refine Kd.C_drew ?_))); (case side2 => exact HC0.out); rintro e w' ⟨rfl, ⟨nd, rfl⟩⟩; (try first | exact ⟨rfl, _, World.drewN_drewN _ _ _⟩ | exact ⟨rfl, _, Eq.trans (World.drewN_drewN _ _ _) (congrArg (World.drewN _) (Nat.add_assoc _ _ _))⟩))); try go_wp2_with (first | (go_at_call 77; (with_reducible refine (ip_num.calls k _ _ l0 2 2 t658 _ ?side1 ?side2 A6.out).mono ?_); (case side1 => repeat (first | exact HR0.out | (with_reducible refine Kd.C_alloc ?_ _) | (with_reducible refine Kd.C_drewN ?_ _) | (with_reducible refine Kd.C_drew ?_))); (case side2 => exact HC0.out); rintro e w' ⟨rfl, ⟨nd, rfl⟩⟩; (try first | exact ⟨rfl, _, World.drewN_drewN _ _ _⟩ | exact ⟨rfl, _, Eq.trans (World.drewN_drewN _ _ _) (congrArg (World.drewN _) (Nat.add_assoc _ _ _))⟩))))
        go_ret3
        exact ⟨by first | rfl | (simp; done) | (simp [*]; done), by repeat (first | exact Drawn0.refl _ | apply Drawn0.step)⟩
       ·rw [if_neg c9] at H
        have c9b0 : decide (t658 < (wrap64 ((wrap64 (Go.bits .and .u8 (rd l0 0) 15)) * 4))) = false := decide_eq_false c9
        clear c9
        by_cases c10 : (l0.length : Int) < t658
        ·rw [if_pos c10] at H
         have c10b0 : decide ((l0.length : Int) < t658) = true := decide_eq_true c10
         clear c10
         simp only [Option.some.injEq, Prod.mk.injEq] at H
         obtain ⟨rfl, rfl, rfl⟩ := H
         have p656 : 0 ≤ (0 : Int) := (by omega)
         have q656 : 0 < (l0.length : Int) := of_decide_eq_true (by first | (with_reducible assumption) | assumption)
         obtain ⟨ad656, e656, hx656_0⟩ := Kd.at_int HR0.out 0 p656 q656
         cases e656
         have qi656 : (0 < l0.length) = True := eq_true (by omega)
         (try rw [show ((0 : Int)).toNat = 0 from rfl] at hx656_0)
         (try rw [Addr.add_zero'] at hx656_0)
         replace p656 := eq_true p656
         replace q656 := eq_true q656
         have p657 : 0 ≤ (0 : Int) := (by omega)
         have q657 : 0 < (l0.length : Int) := of_decide_eq_true (by first | (with_reducible assumption) | assumption)
         obtain ⟨ad657, e657, hx657_0⟩ := Kd.at_int HR0.out 0 p657 q657
         obtain rfl : ad656 = ad657 := (by injection e657)
         have qi657 : (0 < l0.length) = True := eq_true (by omega)
         (try rw [show ((0 : Int)).toNat = 0 from rfl] at hx657_0)
         (try rw [Addr.add_zero'] at hx657_0)
         replace p657 := eq_true p657
         replace q657 := eq_true q657
         go_enter Try.func76, Try.ntmps76
         go_wp2_with (first | (go_at_call 77; (with_reducible refine (ip_num.calls k _ _ l0 2 2 t658 _ ?side1 ?side2 A6.out).mono ?_); (case side1 => repeat (first | exact HR0.out | (with_reducible refine Kd.C_alloc ?_ _) | (with_reducible refine Kd.C_drewN ?_ _) | (with_reducible refine Kd.C_drew ?_))); (case side2 => exact HC0.out); rintro e w' ⟨rfl, ⟨nd, rfl⟩⟩; (try first | exact ⟨rfl, _, World.drewN_drewN _ _ _⟩ | exact ⟨rfl, _, Eq.trans (World.drewN_drewN _ _ _) (congrArg (World.drewN _) (Nat.add_assoc _ _ _))⟩)))
         repeat (go_quiet (first | (go_at_call 77; (with_reducible refine (ip_num.calls k _ _ l0 2 2 t658 _ ?side1 ?side2 A6.out).mono ?_); (case side1 => repeat (first | exact HR0.out | (with_reducible refine Kd.C_alloc ?_ _) | (with_reducible refine Kd.C_drewN ?_ _) | (with_reducible refine Kd.C_drew ?_))); (case side2 => exact HC0.out); rintro e w' ⟨rfl, ⟨nd, rfl⟩⟩; (try first | exact ⟨rfl, _, World.drewN_drewN _ _ _⟩ | exact ⟨rfl, _, Eq.trans (World.drewN_drewN _ _ _) (congrArg (World.drewN _) (Nat.add_assoc _ _ _))⟩))); try go_wp2_with (first | (go_at_call 77; (with_reducible refine (ip_num.calls k _ _ l0 2 2 t658 _ ?side1 ?side2 A6.out).mono ?_); (case side1 => repeat (first | exact HR0.out | (with_reducible refine Kd.C_alloc ?_ _) | (with_reducible refine Kd.C_drewN ?_ _) | (with_reducible refine Kd.C_drew ?_))); (case side2 => exact HC0.out); rintro e w' ⟨rfl, ⟨nd, rfl⟩⟩; (try first | exact ⟨rfl, _, World.drewN_drewN _ _ _⟩ | exact ⟨rfl, _, Eq.trans (World.drewN_drewN _ _ _) (congrArg (World.drewN _) (Nat.add_assoc _ _ _))⟩))))
         go_ret3
         exact ⟨by first | rfl | (simp; done) | (simp [*]; done), by repeat (first | exact Drawn0.refl _ | apply Drawn0.step)⟩
        ·rw [if_neg c10] at H
         have c10b0 : decide ((l0.length : Int) < t658) = false := decide_eq_false c10
         clear c10
         simp only [Option.some.injEq, Prod.mk.injEq] at H
         obtain ⟨rfl, rfl, rfl⟩ := H
         have p656 : 0 ≤ (0 : Int) := (by omega)
         have q656 : 0 < (l0.length : Int) := of_decide_eq_true (by first | (with_reducible assumption) | assumption)
         obtain ⟨ad656, e656, hx656_0⟩ := Kd.at_int HR0.out 0 p656 q656
         cases e656
         have qi656 : (0 < l0.length) = True := eq_true (by omega)
         (try rw [show ((0 : Int)).toNat = 0 from rfl] at hx656_0)
         (try rw [Addr.add_zero'] at hx656_0)
         replace p656 := eq_true p656
         replace q656 := eq_true q656
         have p657 : 0 ≤ (0 : Int) := (by omega)
         have q657 : 0 < (l0.length : Int) := of_decide_eq_true (by first | (with_reducible assumption) | assumption)
         obtain ⟨ad657, e657, hx657_0⟩ := Kd.at_int HR0.out 0 p657 q657
         obtain rfl : ad656 = ad657 := (by injection e657)
         have qi657 : (0 < l0.length) = True := eq_true (by omega)
         (try rw [show ((0 : Int)).toNat = 0 from rfl] at hx657_0)
         (try rw [Addr.add_zero'] at hx657_0)
         replace p657 := eq_true p657
         replace q657 := eq_true q657
         go_enter Try.func76, Try.ntmps76
         go_wp2_with (first | (go_at_call 77; (with_reducible refine (ip_num.calls k _ _ l0 2 2 t658 _ ?side1 ?side2 A6.out).mono ?_); (case side1 => repeat (first | exact HR0.out | (with_reducible refine Kd.C_alloc ?_ _) | (with_reducible refine Kd.C_drewN ?_ _) | (with_reducible refine Kd.C_drew ?_))); (case side2 => exact HC0.out); rintro e w' ⟨rfl, ⟨nd, rfl⟩⟩; (try first | exact ⟨rfl, _, World.drewN_drewN _ _ _⟩ | exact ⟨rfl, _, Eq.trans (World.drewN_drewN _ _ _) (congrArg (World.drewN _) (Nat.add_assoc _ _ _))⟩)))
         repeat (go_quiet (first | (go_at_call 77; (with_reducible refine (ip_num.calls k _ _ l0 2 2 t658 _ ?side1 ?side2 A6.out).mono ?_); (case side1 => repeat (first | exact HR0.out | (with_reducible refine Kd.C_alloc ?_ _) | (with_reducible refine Kd.C_drewN ?_ _) | (with_reducible refine Kd.C_drew ?_))); (case side2 => exact HC0.out); rintro e w' ⟨rfl, ⟨nd, rfl⟩⟩; (try first | exact ⟨rfl, _, World.drewN_drewN _ _ _⟩ | exact ⟨rfl, _, Eq.trans (World.drewN_drewN _ _ _) (congrArg (World.drewN _) (Nat.add_assoc _ _ _))⟩))); try go_wp2_with (first | (go_at_call 77; (with_reducible refine (ip_num.calls k _ _ l0 2 2 t658 _ ?side1 ?side2 A6.out).mono ?_); (case side1 => repeat (first | exact HR0.out | (with_reducible refine Kd.C_alloc ?_ _) | (with_reducible refine Kd.C_drewN ?_ _) | (with_reducible refine Kd.C_drew ?_))); (case side2 => exact HC0.out); rintro e w' ⟨rfl, ⟨nd, rfl⟩⟩; (try first | exact ⟨rfl, _, World.drewN_drewN _ _ _⟩ | exact ⟨rfl, _, Eq.trans (World.drewN_drewN _ _ _) (congrArg (World.drewN _) (Nat.add_assoc _ _ _))⟩))))
         go_ret3
         exact ⟨by first | rfl | (simp; done) | (simp [*]; done), by repeat (first | exact Drawn0.refl _ | apply Drawn0.step)⟩
    ·rw [if_neg c5] at H
     have c5b0 : (((rd l0 0) / 16) == 4) = false := beq_eq_false_iff_ne.mpr c5
     have c5b1 : (((rd l0 0) / 16) != 4) = true := bne_iff_ne.mpr c5
     simp only [Option.some.injEq, Prod.mk.injEq] at H
     obtain ⟨rfl, rfl, rfl⟩ := H
     have p656 : 0 ≤ (0 : Int) := (by omega)
     have q656 : 0 < (l0.length : Int) := of_decide_eq_true (by first | (with_reducible assumption) | assumption)
     obtain ⟨ad656, e656, hx656_0⟩ := Kd.at_int HR0.out 0 p656 q656
     cases e656
     have qi656 : (0 < l0.length) = True := eq_true (by omega)
     (try rw [show ((0 : Int)).toNat = 0 from rfl] at hx656_0)
     (try rw [Addr.add_zero'] at hx656_0)
     replace p656 := eq_true p656
     replace q656 := eq_true q656
     go_enter Try.func76, Try.ntmps76
     go_wp2
     repeat (go_quiet (fail); try go_wp2)
     go_ret3
     exact ⟨by first | rfl | (simp; done) | (simp [*]; done), by repeat (first | exact Drawn0.refl _ | apply Drawn0.step)⟩
   ·rw [if_neg c4] at H
    exact absurd H (by simp)

end Go.Proofs.Ytofjgdbiieanjaa.All
