-- Made by a program of this workplace (wip/pr.sh) out of Lean's print of the translation; Lean checks it.
import Derived.Test.YtofjgdbiieanjaaAllx0
import Derived.Test.YtofjgdbiieanjaaAllx53
import Derived.Test.YtofjgdbiieanjaaAllx49
import Derived.Test.YtofjgdbiieanjaaAllx28
namespace Go.Proofs.Ytofjgdbiieanjaa.All
open Go.Proofs.Ytofjgdbiieanjaa.Ext
open Go.RowKit Go.Proofs.YtofjgdbiieanjaaW.PrintWords Go.Proofs.YtofjgdbiieanjaaW.PrintLast Go.Proofs.YtofjgdbiieanjaaW.PrintMore
attribute [local go_sem] max2_int min2_int max_two min_two max_three min_three max_four min_four   -- for this text's walks alone
set_option linter.unusedVariables false
set_option linter.unusedSimpArgs false

/-! ### tcp_Parse: function 30 -/
def tcp_Parse.f (k : Nat) (a0 : Int) (a1 : Int) (l2 : List Int) : Option (Int × Int × Int × Int) := if (l2.length : Int) < 20 then (some (0, 0, 0, 4)) else (if 12 < (l2.length : Int) then (if 13 < (l2.length : Int) then (if (wrap64 ((wrap64 ((rd l2 12) / 16)) * 4)) < 20 then (some (0, 0, 0, 6)) else (if (wrap64 ((wrap64 ((rd l2 12) / 16)) * 4)) > (l2.length : Int) then (some (0, 0, 0, 4)) else ((tcp_Pseudo.f k 6 a0 a1 (l2.length : Int)).bind fun t285 => ((sum_Add.f k t285 l2).bind fun t286 => (if t286 = 65535 then ((tcp_Sane.f (Go.bits .and .u8 (rd l2 13) 63)).bind fun t287 => (if t287 = true then ((field_Num.f k l2 0 2).bind fun bt288 => ((field_Num.f k l2 2 2).bind fun bt290 => (some (IntKind.u16.wrap (bt288.1), IntKind.u16.wrap (bt290.1), Go.bits .and .u8 (rd l2 13) 63, 0)))) else (some (0, 0, 0, 11)))) else (some (0, 0, 0, 7))))))) else (none)) else (none))
theorem tcp_Parse.mono : ∀ a0 a1 a2 k, LeO (tcp_Parse.f k a0 a1 a2) (tcp_Parse.f (k + 1) a0 a1 a2) := by
  intro a0 a1 a2 k
  unfold tcp_Parse.f
  repeat' first
      | (with_reducible exact field_Num.mono _ _ _ _)
      | (with_reducible exact sum_Add.mono _ _ _)
      | (with_reducible exact tcp_Pseudo.mono _ _ _ _ _)
      | (with_reducible exact LeO.refl _)
      | (with_reducible exact LeO.none _)
      | (with_reducible refine LeO.ite ?_ ?_)
      | (with_reducible refine LeO.bind ?_ (fun _ => ?_))
      | exact field_Num.mono _ _ _ _
      | exact sum_Add.mono _ _ _
      | exact tcp_Pseudo.mono _ _ _ _ _
      | exact LeO.none _
      | refine LeO.ite ?_ ?_
      | refine LeO.bind ?_ (fun _ => ?_)
set_option maxHeartbeats 8000000 in
set_option maxRecDepth 100000 in
theorem tcp_Parse.calls (k : Nat) (a0 : Int) (a1 : Int) (A2 : Option Addr) (c2 : Nat) (l2 : List Int) (r1 : Int) (r2 : Int) (r3 : Int) (r4 : Int) (w : World) (hr2 : Kd.C (Kd.int .u8) w A2 l2.length l2) (hc2 : l2.length ≤ c2) (h : tcp_Parse.f k a0 a1 l2 = some (r1, r2, r3, r4)) :
    Calls Try.prog 30 #[.int .u32 a0, .int .u32 a1, .slice A2 l2.length c2] w fun e w' => e = .returned (.tuple #[.int .u16 r1, .int .u16 r2, .int .u8 r3, .int .i64 r4]) ∧ Below w.heap.size w w' := by
 have HR2 := aS hr2
 have HC2 := aS hc2
 clear hr2 hc2
 have HB := aS (Below.refl w.heap.size w)
 have H := h
 unfold tcp_Parse.f at H
 clear h
 by_cases c4 : (l2.length : Int) < 20
 ·rw [if_pos c4] at H
  have c4b0 : decide ((l2.length : Int) < 20) = true := decide_eq_true c4
  have c4b1 : decide (l2.length < 20) = true := decide_eq_true (by omega)
  clear c4
  simp only [Option.some.injEq, Prod.mk.injEq] at H
  obtain ⟨rfl, rfl, rfl, rfl⟩ := H
  go_enter Try.func30, Try.ntmps30
  go_wp2
  refine bodyPost_ret (results_list (rs := [.tmp 6, .tmp 7, .tmp 8, .tmp 9]) rfl (by simp) (.tmp (.tmp (.tmp (.tmp .nil))))) rfl ?_
  exact ⟨by first | rfl | (simp [errW_none, errW_some] <;> rfl) | (simp [*, errW_none, errW_some] <;> rfl), tB HB.out⟩
 ·rw [if_neg c4] at H
  have c4b0 : decide ((l2.length : Int) < 20) = false := decide_eq_false c4
  have c4b1 : decide (l2.length < 20) = false := decide_eq_false (by omega)
  clear c4
  by_cases c5 : 12 < (l2.length : Int)
  ·rw [if_pos c5] at H
   have c5b0 : decide (12 < (l2.length : Int)) = true := decide_eq_true c5
   have c5b1 : decide (12 < l2.length) = true := decide_eq_true (by omega)
   clear c5
   by_cases c6 : 13 < (l2.length : Int)
   ·rw [if_pos c6] at H
    have c6b0 : decide (13 < (l2.length : Int)) = true := decide_eq_true c6
    have c6b1 : decide (13 < l2.length) = true := decide_eq_true (by omega)
    clear c6
    by_cases c7 : (wrap64 ((wrap64 ((rd l2 12) / 16)) * 4)) < 20
    ·rw [if_pos c7] at H
     have c7b0 : decide ((wrap64 ((wrap64 ((rd l2 12) / 16)) * 4)) < 20) = true := decide_eq_true c7
     clear c7
     simp only [Option.some.injEq, Prod.mk.injEq] at H
     obtain ⟨rfl, rfl, rfl, rfl⟩ := H
     have p283 : 0 ≤ (12 : Int) := (by omega)
     have q283 : 12 < (l2.length : Int) := of_decide_eq_true (by first | (with_reducible assumption) | assumption)
     obtain ⟨ad283, e283, hx283_0⟩ := Kd.at_int HR2.out 12 p283 q283
     cases e283
     (try simp only [show (12 : Int).toNat = 12 from rfl, Nat.reduceMul, Nat.reduceEqDiff, Go.Addr.add, ↓reduceIte] at hx283_0)
     have qi283 : (12 < l2.length) = True := eq_true (by omega)
     (try rw [show ((12 : Int)).toNat = 12 from rfl] at hx283_0)
     replace p283 := eq_true p283
     replace q283 := eq_true q283
     have p284 : 0 ≤ (13 : Int) := (by omega)
     have q284 : 13 < (l2.length : Int) := of_decide_eq_true (by first | (with_reducible assumption) | assumption)
     obtain ⟨ad284, e284, hx284_0⟩ := Kd.at_int HR2.out 13 p284 q284
     obtain rfl : ad283 = ad284 := (by injection e284)
     (try simp only [show (13 : Int).toNat = 13 from rfl, Nat.reduceMul, Nat.reduceEqDiff, Go.Addr.add, ↓reduceIte] at hx284_0)
     have qi284 : (13 < l2.length) = True := eq_true (by omega)
     (try rw [show ((13 : Int)).toNat = 13 from rfl] at hx284_0)
     replace p284 := eq_true p284
     replace q284 := eq_true q284
     go_enter Try.func30, Try.ntmps30
     go_wp2
     refine bodyPost_ret (results_list (rs := [.tmp 6, .tmp 7, .tmp 8, .tmp 9]) rfl (by simp) (.tmp (.tmp (.tmp (.tmp .nil))))) rfl ?_
     exact ⟨by first | rfl | (simp [errW_none, errW_some] <;> rfl) | (simp [*, errW_none, errW_some] <;> rfl), tB HB.out⟩
    ·rw [if_neg c7] at H
     have c7b0 : decide ((wrap64 ((wrap64 ((rd l2 12) / 16)) * 4)) < 20) = false := decide_eq_false c7
     clear c7
     by_cases c8 : (wrap64 ((wrap64 ((rd l2 12) / 16)) * 4)) > (l2.length : Int)
     ·rw [if_pos c8] at H
      have c8b0 : decide ((l2.length : Int) < (wrap64 ((wrap64 ((rd l2 12) / 16)) * 4))) = true := decide_eq_true c8
      clear c8
      simp only [Option.some.injEq, Prod.mk.injEq] at H
      obtain ⟨rfl, rfl, rfl, rfl⟩ := H
      have p283 : 0 ≤ (12 : Int) := (by omega)
      have q283 : 12 < (l2.length : Int) := of_decide_eq_true (by first | (with_reducible assumption) | assumption)
      obtain ⟨ad283, e283, hx283_0⟩ := Kd.at_int HR2.out 12 p283 q283
      cases e283
      (try simp only [show (12 : Int).toNat = 12 from rfl, Nat.reduceMul, Nat.reduceEqDiff, Go.Addr.add, ↓reduceIte] at hx283_0)
      have qi283 : (12 < l2.length) = True := eq_true (by omega)
      (try rw [show ((12 : Int)).toNat = 12 from rfl] at hx283_0)
      replace p283 := eq_true p283
      replace q283 := eq_true q283
      have p284 : 0 ≤ (13 : Int) := (by omega)
      have q284 : 13 < (l2.length : Int) := of_decide_eq_true (by first | (with_reducible assumption) | assumption)
      obtain ⟨ad284, e284, hx284_0⟩ := Kd.at_int HR2.out 13 p284 q284
      obtain rfl : ad283 = ad284 := (by injection e284)
      (try simp only [show (13 : Int).toNat = 13 from rfl, Nat.reduceMul, Nat.reduceEqDiff, Go.Addr.add, ↓reduceIte] at hx284_0)
      have qi284 : (13 < l2.length) = True := eq_true (by omega)
      (try rw [show ((13 : Int)).toNat = 13 from rfl] at hx284_0)
      replace p284 := eq_true p284
      replace q284 := eq_true q284
      go_enter Try.func30, Try.ntmps30
      go_wp2
      refine bodyPost_ret (results_list (rs := [.tmp 6, .tmp 7, .tmp 8, .tmp 9]) rfl (by simp) (.tmp (.tmp (.tmp (.tmp .nil))))) rfl ?_
      exact ⟨by first | rfl | (simp [errW_none, errW_some] <;> rfl) | (simp [*, errW_none, errW_some] <;> rfl), tB HB.out⟩
     ·rw [if_neg c8] at H
      have c8b0 : decide ((l2.length : Int) < (wrap64 ((wrap64 ((rd l2 12) / 16)) * 4))) = false := decide_eq_false c8
      clear c8
      replace H := Option.bind_eq_some_iff.mp H
      obtain ⟨t285, A90, H⟩ := H
      try dsimp -simprocs only at H
      have A9 := aS A90
      clear A90
      replace H := Option.bind_eq_some_iff.mp H
      obtain ⟨t286, A100, H⟩ := H
      try dsimp -simprocs only at H
      have A10 := aS A100
      clear A100
      by_cases c11 : t286 = 65535
      ·rw [if_pos c11] at H
       have c11b0 : (t286 == 65535) = true := beq_iff_eq.mpr c11
       have c11b1 : (t286 != 65535) = false := bne_eq_false_iff_eq.mpr c11
       clear c11
       replace H := Option.bind_eq_some_iff.mp H
       obtain ⟨t287, A120, H⟩ := H
       try dsimp -simprocs only at H
       have A12 := aS A120
       clear A120
       by_cases c13 : t287 = true
       ·subst c13
        rw [if_pos rfl] at H
        have H1 := H; clear H; have H := H1; clear H1
        replace H := Option.bind_eq_some_iff.mp H
        obtain ⟨⟨t288, t289⟩, A140, H⟩ := H
        try dsimp -simprocs only at H
        have A14 := aS A140
        clear A140
        replace H := Option.bind_eq_some_iff.mp H
        obtain ⟨⟨t290, t291⟩, A150, H⟩ := H
        try dsimp -simprocs only at H
        have A15 := aS A150
        clear A150
        simp only [Option.some.injEq, Prod.mk.injEq] at H
        obtain ⟨rfl, rfl, rfl, rfl⟩ := H
        have p283 : 0 ≤ (12 : Int) := (by omega)
        have q283 : 12 < (l2.length : Int) := of_decide_eq_true (by first | (with_reducible assumption) | assumption)
        obtain ⟨ad283, e283, hx283_0⟩ := Kd.at_int HR2.out 12 p283 q283
        cases e283
        (try simp only [show (12 : Int).toNat = 12 from rfl, Nat.reduceMul, Nat.reduceEqDiff, Go.Addr.add, ↓reduceIte] at hx283_0)
        have qi283 : (12 < l2.length) = True := eq_true (by omega)
        (try rw [show ((12 : Int)).toNat = 12 from rfl] at hx283_0)
        replace p283 := eq_true p283
        replace q283 := eq_true q283
        have p284 : 0 ≤ (13 : Int) := (by omega)
        have q284 : 13 < (l2.length : Int) := of_decide_eq_true (by first | (with_reducible assumption) | assumption)
        obtain ⟨ad284, e284, hx284_0⟩ := Kd.at_int HR2.out 13 p284 q284
        obtain rfl : ad283 = ad284 := (by injection e284)
        (try simp only [show (13 : Int).toNat = 13 from rfl, Nat.reduceMul, Nat.reduceEqDiff, Go.Addr.add, ↓reduceIte] at hx284_0)
        have qi284 : (13 < l2.length) = True := eq_true (by omega)
        (try rw [show ((13 : Int)).toNat = 13 from rfl] at hx284_0)
        replace p284 := eq_true p284
        replace q284 := eq_true q284
        go_enter Try.func30, Try.ntmps30
        go_wp2_with (first | ((with_reducible refine gate_callee (f := 38) rfl ?_); refine goesL_ (some 41) rfl rfl Try.func38 (by kernel_rfl) rfl #[.int .u8 6, .int .u32 a0, .int .u32 a1, .int .i64 (l2.length : Int)] rfl (by (try simp only [List.map_toArray, List.map_cons, List.map_nil]); first | done | rfl) ?_; (with_reducible refine (tcp_Pseudo.calls k 6 a0 a1 (l2.length : Int) t285 _ A9.out).mono ?_); rintro e w16 ⟨rfl, hb⟩; refine ⟨_, rfl, ?_⟩; replace HB := aS (below_step (tB HB.out) hb); (try clear hb); (try clear hb2); (try clear hk); (try clear hi)) | ((with_reducible refine gate_callee (f := 62) rfl ?_); refine goesL_ (some 43) rfl rfl Try.func62 (by kernel_rfl) rfl #[.int .u16 t285, .slice (some ad283) l2.length c2] rfl (by (try simp only [List.map_toArray, List.map_cons, List.map_nil]); first | done | rfl) ?_; (with_reducible refine (sum_Add.calls k t285 _ _ l2 t286 _ ?side1 ?side2 A10.out).mono ?_); (case side1 => repeat (first | exact (Kd.C_below HR2.out HB.out) | (with_reducible refine Kd.C_alloc ?_ _) | (with_reducible refine Kd.C_drewN ?_ _) | (with_reducible refine Kd.C_drew ?_))); (case side2 => exact HC2.out); rintro e w' ⟨rfl, ⟨nd, rfl⟩⟩; refine ⟨_, rfl, ?_⟩) | ((with_reducible refine gate_callee (f := 36) rfl ?_); refine goesL_ (some 47) rfl rfl Try.func36 (by kernel_rfl) rfl #[.int .u8 (Go.bits .and .u8 (rd l2 13) 63)] rfl (by (try simp only [List.map_toArray, List.map_cons, List.map_nil]); first | done | rfl) ?_; (with_reducible refine (tcp_Sane.calls (Go.bits .and .u8 (rd l2 13) 63) true _ A12.out).mono ?_); rintro e w' ⟨rfl, ⟨nd, rfl⟩⟩; refine ⟨_, rfl, ?_⟩) | ((with_reducible refine gate_callee (f := 64) rfl ?_); refine goesL_ (some 51) rfl rfl Try.func64 (by kernel_rfl) rfl #[.slice (some ad283) l2.length c2, .int .i64 0, .int .i64 2] rfl (by (try simp only [List.map_toArray, List.map_cons, List.map_nil]); first | done | rfl) ?_; (with_reducible refine (field_Num.calls k _ _ l2 0 2 t288 t289 _ ?side1 ?side2 A14.out).mono ?_); (case side1 => repeat (first | exact (Kd.C_below HR2.out (tB HB.out)) | (with_reducible refine Kd.C_alloc ?_ _) | (with_reducible refine Kd.C_drewN ?_ _) | (with_reducible refine Kd.C_drew ?_))); (case side2 => exact HC2.out); rintro e w' ⟨rfl, ⟨nd, rfl⟩⟩; refine ⟨_, rfl, ?_⟩) | ((with_reducible refine gate_callee (f := 64) rfl ?_); refine goesL_ (some 56) rfl rfl Try.func64 (by kernel_rfl) rfl #[.slice (some ad283) l2.length c2, .int .i64 2, .int .i64 2] rfl (by (try simp only [List.map_toArray, List.map_cons, List.map_nil]); first | done | rfl) ?_; (with_reducible refine (field_Num.calls k _ _ l2 2 2 t290 t291 _ ?side1 ?side2 A15.out).mono ?_); (case side1 => repeat (first | exact (Kd.C_below HR2.out (tB HB.out)) | (with_reducible refine Kd.C_alloc ?_ _) | (with_reducible refine Kd.C_drewN ?_ _) | (with_reducible refine Kd.C_drew ?_))); (case side2 => exact HC2.out); rintro e w' ⟨rfl, ⟨nd, rfl⟩⟩; refine ⟨_, rfl, ?_⟩))
        refine bodyPost_ret (results_list (rs := [.tmp 6, .tmp 7, .tmp 8, .tmp 9]) rfl (by simp) (.tmp (.tmp (.tmp (.tmp .nil))))) rfl ?_
        exact ⟨by first | rfl | (simp [errW_none, errW_some] <;> rfl) | (simp [*, errW_none, errW_some] <;> rfl), tB HB.out⟩
       ·replace c13 := Bool.eq_false_iff.mpr c13
        subst c13
        rw [if_neg (show ¬ (false = true) by decide)] at H
        have H1 := H; clear H; have H := H1; clear H1
        simp only [Option.some.injEq, Prod.mk.injEq] at H
        obtain ⟨rfl, rfl, rfl, rfl⟩ := H
        have p283 : 0 ≤ (12 : Int) := (by omega)
        have q283 : 12 < (l2.length : Int) := of_decide_eq_true (by first | (with_reducible assumption) | assumption)
        obtain ⟨ad283, e283, hx283_0⟩ := Kd.at_int HR2.out 12 p283 q283
        cases e283
        (try simp only [show (12 : Int).toNat = 12 from rfl, Nat.reduceMul, Nat.reduceEqDiff, Go.Addr.add, ↓reduceIte] at hx283_0)
        have qi283 : (12 < l2.length) = True := eq_true (by omega)
        (try rw [show ((12 : Int)).toNat = 12 from rfl] at hx283_0)
        replace p283 := eq_true p283
        replace q283 := eq_true q283
        have p284 : 0 ≤ (13 : Int) := (by omega)
        have q284 : 13 < (l2.length : Int) := of_decide_eq_true (by first | (with_reducible assumption) | assumption)
        obtain ⟨ad284, e284, hx284_0⟩ := Kd.at_int HR2.out 13 p284 q284
        obtain rfl : ad283 = ad284 := (by injection e284)
        (try simp only [show (13 : Int).toNat = 13 from rfl, Nat.reduceMul, Nat.reduceEqDiff, Go.Addr.add, ↓reduceIte] at hx284_0)
        have qi284 : (13 < l2.length) = True := eq_true (by omega)
        (try rw [show ((13 : Int)).toNat = 13 from rfl] at hx284_0)
        replace p284 := eq_true p284
        replace q284 := eq_true q284
        go_enter Try.func30, Try.ntmps30
        go_wp2_with (first | ((with_reducible refine gate_callee (f := 38) rfl ?_); refine goesL_ (some 41) rfl rfl Try.func38 (by kernel_rfl) rfl #[.int .u8 6, .int .u32 a0, .int .u32 a1, .int .i64 (l2.length : Int)] rfl (by (try simp only [List.map_toArray, List.map_cons, List.map_nil]); first | done | rfl) ?_; (with_reducible refine (tcp_Pseudo.calls k 6 a0 a1 (l2.length : Int) t285 _ A9.out).mono ?_); rintro e w17 ⟨rfl, hb⟩; refine ⟨_, rfl, ?_⟩; replace HB := aS (below_step (tB HB.out) hb); (try clear hb); (try clear hb2); (try clear hk); (try clear hi)) | ((with_reducible refine gate_callee (f := 62) rfl ?_); refine goesL_ (some 43) rfl rfl Try.func62 (by kernel_rfl) rfl #[.int .u16 t285, .slice (some ad283) l2.length c2] rfl (by (try simp only [List.map_toArray, List.map_cons, List.map_nil]); first | done | rfl) ?_; (with_reducible refine (sum_Add.calls k t285 _ _ l2 t286 _ ?side1 ?side2 A10.out).mono ?_); (case side1 => repeat (first | exact (Kd.C_below HR2.out HB.out) | (with_reducible refine Kd.C_alloc ?_ _) | (with_reducible refine Kd.C_drewN ?_ _) | (with_reducible refine Kd.C_drew ?_))); (case side2 => exact HC2.out); rintro e w' ⟨rfl, ⟨nd, rfl⟩⟩; refine ⟨_, rfl, ?_⟩) | ((with_reducible refine gate_callee (f := 36) rfl ?_); refine goesL_ (some 47) rfl rfl Try.func36 (by kernel_rfl) rfl #[.int .u8 (Go.bits .and .u8 (rd l2 13) 63)] rfl (by (try simp only [List.map_toArray, List.map_cons, List.map_nil]); first | done | rfl) ?_; (with_reducible refine (tcp_Sane.calls (Go.bits .and .u8 (rd l2 13) 63) false _ A12.out).mono ?_); rintro e w' ⟨rfl, ⟨nd, rfl⟩⟩; refine ⟨_, rfl, ?_⟩))
        refine bodyPost_ret (results_list (rs := [.tmp 6, .tmp 7, .tmp 8, .tmp 9]) rfl (by simp) (.tmp (.tmp (.tmp (.tmp .nil))))) rfl ?_
        exact ⟨by first | rfl | (simp [errW_none, errW_some] <;> rfl) | (simp [*, errW_none, errW_some] <;> rfl), tB HB.out⟩
      ·rw [if_neg c11] at H
       have c11b0 : (t286 == 65535) = false := beq_eq_false_iff_ne.mpr c11
       have c11b1 : (t286 != 65535) = true := bne_iff_ne.mpr c11
       simp only [Option.some.injEq, Prod.mk.injEq] at H
       obtain ⟨rfl, rfl, rfl, rfl⟩ := H
       have p283 : 0 ≤ (12 : Int) := (by omega)
       have q283 : 12 < (l2.length : Int) := of_decide_eq_true (by first | (with_reducible assumption) | assumption)
       obtain ⟨ad283, e283, hx283_0⟩ := Kd.at_int HR2.out 12 p283 q283
       cases e283
       (try simp only [show (12 : Int).toNat = 12 from rfl, Nat.reduceMul, Nat.reduceEqDiff, Go.Addr.add, ↓reduceIte] at hx283_0)
       have qi283 : (12 < l2.length) = True := eq_true (by omega)
       (try rw [show ((12 : Int)).toNat = 12 from rfl] at hx283_0)
       replace p283 := eq_true p283
       replace q283 := eq_true q283
       have p284 : 0 ≤ (13 : Int) := (by omega)
       have q284 : 13 < (l2.length : Int) := of_decide_eq_true (by first | (with_reducible assumption) | assumption)
       obtain ⟨ad284, e284, hx284_0⟩ := Kd.at_int HR2.out 13 p284 q284
       obtain rfl : ad283 = ad284 := (by injection e284)
       (try simp only [show (13 : Int).toNat = 13 from rfl, Nat.reduceMul, Nat.reduceEqDiff, Go.Addr.add, ↓reduceIte] at hx284_0)
       have qi284 : (13 < l2.length) = True := eq_true (by omega)
       (try rw [show ((13 : Int)).toNat = 13 from rfl] at hx284_0)
       replace p284 := eq_true p284
       replace q284 := eq_true q284
       go_enter Try.func30, Try.ntmps30
       go_wp2_with (first | ((with_reducible refine gate_callee (f := 38) rfl ?_); refine goesL_ (some 41) rfl rfl Try.func38 (by kernel_rfl) rfl #[.int .u8 6, .int .u32 a0, .int .u32 a1, .int .i64 (l2.length : Int)] rfl (by (try simp only [List.map_toArray, List.map_cons, List.map_nil]); first | done | rfl) ?_; (with_reducible refine (tcp_Pseudo.calls k 6 a0 a1 (l2.length : Int) t285 _ A9.out).mono ?_); rintro e w18 ⟨rfl, hb⟩; refine ⟨_, rfl, ?_⟩; replace HB := aS (below_step (tB HB.out) hb); (try clear hb); (try clear hb2); (try clear hk); (try clear hi)) | ((with_reducible refine gate_callee (f := 62) rfl ?_); refine goesL_ (some 43) rfl rfl Try.func62 (by kernel_rfl) rfl #[.int .u16 t285, .slice (some ad283) l2.length c2] rfl (by (try simp only [List.map_toArray, List.map_cons, List.map_nil]); first | done | rfl) ?_; (with_reducible refine (sum_Add.calls k t285 _ _ l2 t286 _ ?side1 ?side2 A10.out).mono ?_); (case side1 => repeat (first | exact (Kd.C_below HR2.out HB.out) | (with_reducible refine Kd.C_alloc ?_ _) | (with_reducible refine Kd.C_drewN ?_ _) | (with_reducible refine Kd.C_drew ?_))); (case side2 => exact HC2.out); rintro e w' ⟨rfl, ⟨nd, rfl⟩⟩; refine ⟨_, rfl, ?_⟩))
       refine bodyPost_ret (results_list (rs := [.tmp 6, .tmp 7, .tmp 8, .tmp 9]) rfl (by simp) (.tmp (.tmp (.tmp (.tmp .nil))))) rfl ?_
       exact ⟨by first | rfl | (simp [errW_none, errW_some] <;> rfl) | (simp [*, errW_none, errW_some] <;> rfl), tB HB.out⟩
   ·rw [if_neg c6] at H
    exact absurd H (by simp)
  ·rw [if_neg c5] at H
   exact absurd H (by simp)

end Go.Proofs.Ytofjgdbiieanjaa.All
