-- Made by a program of this workplace (wip/pr.sh) out of Lean's print of the translation; Lean checks it.
import Derived.Test.YtofjgdbiieanjaaAllx0
import Derived.Test.YtofjgdbiieanjaaAllx53
import Derived.Test.YtofjgdbiieanjaaAllx28
namespace Go.Proofs.Ytofjgdbiieanjaa.All
open Go.Proofs.Ytofjgdbiieanjaa.Ext
open Go.RowKit Go.Proofs.YtofjgdbiieanjaaW.PrintWords Go.Proofs.YtofjgdbiieanjaaW.PrintLast Go.Proofs.YtofjgdbiieanjaaW.PrintMore
attribute [local go_sem] max2_int min2_int max_two min_two max_three min_three max_four min_four   -- for this text's walks alone
set_option linter.unusedVariables false
set_option linter.unusedSimpArgs false

/-! ### mantletref05_Build: function 35 -/
def mantletref05_Build.j0 : Nat → Int → Int → Int → Int → Int → List Int → Bool → Option (List Int × Int)
  | 0, _, _, _, _, _, _, _ => none
  | k + 1, x0, x1, x2, x3, x4, x5, x24 => if x24 = true then (some (([] : List Int), 11)) else (if (x5.length : Int) > 1460 then (some (([] : List Int), 2)) else ((mantletref04_Put.f (wrap64 (x2))).bind fun t405 => ((mantletref04_Put.f (wrap64 (x3))).bind fun t408 => (if t405.length + t408.length < 140737488355328 then ((some (t405 ++ t408 : List Int)).bind fun y411 => ((some (([0, 0, 0, 0, 0, 0, 0, 0, 80, x4, 0, 0] : List Int) : List Int)).bind fun y414 => (if y411.length + y414.length < 140737488355328 then ((some (y411 ++ y414 : List Int)).bind fun y417 => ((some (([0, 0] : List Int) : List Int)).bind fun y420 => (if y420.length + x5.length < 140737488355328 then ((some (y420 ++ x5 : List Int)).bind fun y423 => ((some (([] : List Int) : List Int)).bind fun y426 => (if y426.length + y417.length < 140737488355328 then ((some (y426 ++ y417 : List Int)).bind fun y429 => ((some (([0, 0] : List Int) : List Int)).bind fun y432 => (if y429.length + y432.length < 140737488355328 then ((some (y429 ++ y432 : List Int)).bind fun y435 => (if y435.length + y423.length < 140737488355328 then ((some (y435 ++ y423 : List Int)).bind fun y438 => ((mantletref05_Pseudo.f k 6 x0 x1 (y438.length : Int)).bind fun t441 => ((mantletref02_Add.f k t441 y438).bind fun t442 => ((mantletref04_Put.f (wrap64 (65535 - t442))).bind fun t443 => (if y417.length + t443.length < 140737488355328 then ((some (y417 ++ t443 : List Int)).bind fun y446 => (if y446.length + y423.length < 140737488355328 then (some ((y446 ++ y423), 0)) else (none))) else (none)))))) else (none))) else (none)))) else (none)))) else (none)))) else (none)))) else (none)))))
def mantletref05_Build.f (k : Nat) (a0 : Int) (a1 : Int) (a2 : Int) (a3 : Int) (a4 : Int) (l5 : List Int) : Option (List Int × Int) := (mantletref05_Sane.f a4).bind fun t404 => (if t404 = true then (mantletref05_Build.j0 k a0 a1 a2 a3 a4 l5 (decide (a4 > 63))) else (mantletref05_Build.j0 k a0 a1 a2 a3 a4 l5 true))
theorem mantletref05_Build.mono_l : ∀ k, (∀ y0 y1 y2 y3 y4 y5 y6, LeO (mantletref05_Build.j0 k y0 y1 y2 y3 y4 y5 y6) (mantletref05_Build.j0 (k + 1) y0 y1 y2 y3 y4 y5 y6))
  | 0 => fun _ _ _ _ _ _ _ r h => by simp [mantletref05_Build.j0] at h
  | k + 1 => by
    have ih0 := mantletref05_Build.mono_l k
    · intro y0 y1 y2 y3 y4 y5 y6
      unfold mantletref05_Build.j0
      repeat' first
      | (with_reducible exact ih0 _ _ _ _ _ _ _)
      | (with_reducible exact mantletref02_Add.mono _ _ _)
      | (with_reducible exact mantletref05_Pseudo.mono _ _ _ _ _)
      | (with_reducible exact LeO.refl _)
      | (with_reducible exact LeO.none _)
      | (with_reducible refine LeO.ite ?_ ?_)
      | (with_reducible refine LeO.bind ?_ (fun _ => ?_))
      | exact ih0 _ _ _ _ _ _ _
      | exact mantletref02_Add.mono _ _ _
      | exact mantletref05_Pseudo.mono _ _ _ _ _
      | exact LeO.none _
      | refine LeO.ite ?_ ?_
      | refine LeO.bind ?_ (fun _ => ?_)
theorem mantletref05_Build.mono : ∀ a0 a1 a2 a3 a4 a5 k, LeO (mantletref05_Build.f k a0 a1 a2 a3 a4 a5) (mantletref05_Build.f (k + 1) a0 a1 a2 a3 a4 a5) := by
  intro a0 a1 a2 a3 a4 a5 k
  have ih0 := mantletref05_Build.mono_l k
  unfold mantletref05_Build.f
  repeat' first
      | (with_reducible exact ih0 _ _ _ _ _ _ _)
      | (with_reducible exact mantletref02_Add.mono _ _ _)
      | (with_reducible exact mantletref05_Pseudo.mono _ _ _ _ _)
      | (with_reducible exact LeO.refl _)
      | (with_reducible exact LeO.none _)
      | (with_reducible refine LeO.ite ?_ ?_)
      | (with_reducible refine LeO.bind ?_ (fun _ => ?_))
      | exact ih0 _ _ _ _ _ _ _
      | exact mantletref02_Add.mono _ _ _
      | exact mantletref05_Pseudo.mono _ _ _ _ _
      | exact LeO.none _
      | refine LeO.ite ?_ ?_
      | refine LeO.bind ?_ (fun _ => ?_)
set_option maxHeartbeats 8000000 in
set_option maxRecDepth 100000 in
theorem mantletref05_Build.calls (k : Nat) (a0 : Int) (a1 : Int) (a2 : Int) (a3 : Int) (a4 : Int) (A5 : Option Addr) (c5 : Nat) (l5 : List Int) (r1 : List Int) (r2 : Int) (w : World) (hr5 : Kd.C (Kd.int .u8) w A5 l5.length l5) (hc5 : l5.length ≤ c5) (h : mantletref05_Build.f k a0 a1 a2 a3 a4 l5 = some (r1, r2)) :
    Calls Try.prog 35 #[.int .u32 a0, .int .u32 a1, .int .u16 a2, .int .u16 a3, .int .u8 a4, .slice A5 l5.length c5] w fun e w' => ∃ v0_ : Value, e = .returned (.tuple #[v0_, .int .i64 r2]) ∧ Kd.R (Kd.int .u8) 5 w' w.heap.size (fun _ => True) v0_ r1 ∧ Below w.heap.size w w' := by
 have HR5 := aS hr5
 have HC5 := aS hc5
 clear hr5 hc5
 have HB := aS (Below.refl w.heap.size w)
 have H := h
 unfold mantletref05_Build.f at H
 clear h
 have HC7 := aS H
 clear H
 go_enter Try.func35, Try.ntmps35
 go_upto_region 1 with (fail)
 go_cut [24] (fun v24 wc => ∃ (kq : Nat) (x24_6 : Bool), v24 = .bool x24_6 ∧ Aside0 (mantletref05_Build.j0 kq a0 a1 a2 a3 a4 l5 x24_6 = some (r1, r2)) ∧ Aside0 (kq ≤ k) ∧ Aside0 (Below w.heap.size w wc))
 case first =>
  have H := HC7.out
  clear HC7
  replace H := Option.bind_eq_some_iff.mp H
  obtain ⟨t404, A80, H⟩ := H
  try dsimp -simprocs only at H
  have A8 := aS A80
  clear A80
  by_cases c9 : t404 = true
  ·subst c9
   rw [if_pos rfl] at H
   have H1 := H; clear H; have H := H1; clear H1
   have H' := aS H
   clear H
   go_wp2_with (first | ((with_reducible refine gate_callee (f := 37) rfl ?_); refine goesL_ (some 19) rfl rfl Try.func37 (by kernel_rfl) rfl #[.int .u8 a4] rfl (by (try simp only [List.map_toArray, List.map_cons, List.map_nil]); first | done | rfl) ?_; (with_reducible refine (mantletref05_Sane.calls a4 true _ A8.out).mono ?_); rintro e w' ⟨rfl, ⟨nd, rfl⟩⟩; refine ⟨_, rfl, ?_⟩))
   go_meet
   case rel => exact ⟨_, (decide (a4 > 63)), (by first | rfl | (simp; done) | (simp [*]; done)), H', ⟨by first | omega | exact Nat.le_refl _⟩, ⟨tB HB.out⟩⟩
  ·replace c9 := Bool.eq_false_iff.mpr c9
   subst c9
   rw [if_neg (show ¬ (false = true) by decide)] at H
   have H1 := H; clear H; have H := H1; clear H1
   have H' := aS H
   clear H
   go_wp2_with (first | ((with_reducible refine gate_callee (f := 37) rfl ?_); refine goesL_ (some 19) rfl rfl Try.func37 (by kernel_rfl) rfl #[.int .u8 a4] rfl (by (try simp only [List.map_toArray, List.map_cons, List.map_nil]); first | done | rfl) ?_; (with_reducible refine (mantletref05_Sane.calls a4 false _ A8.out).mono ?_); rintro e w' ⟨rfl, ⟨nd, rfl⟩⟩; refine ⟨_, rfl, ?_⟩))
   go_meet
   case rel => exact ⟨_, (true), (by first | rfl | (simp; done) | (simp [*]; done)), H', ⟨by first | omega | exact Nat.le_refl _⟩, ⟨tB HB.out⟩⟩
 case rest =>
  clear HC7; (try clear c5); obtain ⟨kq, x24_6, rfl, HA, HJ6, HB⟩ := hcut
  cases kq with
  | zero => exact absurd HA.out (by simp [mantletref05_Build.j0])
  | succ kj6 =>
   have H := HA.out
   clear HA
   simp only [mantletref05_Build.j0] at H
   by_cases c10 : x24_6 = true
   ·subst c10
    rw [if_pos rfl] at H
    have H1 := H; clear H; have H := H1; clear H1
    simp only [Option.some.injEq, Prod.mk.injEq] at H
    obtain ⟨rfl, rfl⟩ := H
    go_wp2
    go_ret2
    exact ⟨_, by first | rfl | (simp [errW_none, errW_some] <;> rfl) | (simp [*, errW_none, errW_some] <;> rfl), by first | exact Kd.R_nil _ _ _ _ _ | exact Kd.N_nil _ _ _ _ _ | exact Kd.V_nil _ _ _ _ _ | exact Kd.Q_nil _ _ _ _ _ | exact Kd.S_nil _ _ _ _ _, tB HB.out⟩
   ·replace c10 := Bool.eq_false_iff.mpr c10
    subst c10
    rw [if_neg (show ¬ (false = true) by decide)] at H
    have H1 := H; clear H; have H := H1; clear H1
    by_cases c11 : (l5.length : Int) > 1460
    ·rw [if_pos c11] at H
     have c11b0 : decide (1460 < (l5.length : Int)) = true := decide_eq_true c11
     have c11b1 : decide (1460 < l5.length) = true := decide_eq_true (by omega)
     clear c11
     simp only [Option.some.injEq, Prod.mk.injEq] at H
     obtain ⟨rfl, rfl⟩ := H
     go_wp2
     go_ret2
     exact ⟨_, by first | rfl | (simp [errW_none, errW_some] <;> rfl) | (simp [*, errW_none, errW_some] <;> rfl), by first | exact Kd.R_nil _ _ _ _ _ | exact Kd.N_nil _ _ _ _ _ | exact Kd.V_nil _ _ _ _ _ | exact Kd.Q_nil _ _ _ _ _ | exact Kd.S_nil _ _ _ _ _, tB HB.out⟩
    ·rw [if_neg c11] at H
     have c11b0 : decide (1460 < (l5.length : Int)) = false := decide_eq_false c11
     have c11b1 : decide (1460 < l5.length) = false := decide_eq_false (by omega)
     clear c11
     replace H := Option.bind_eq_some_iff.mp H
     obtain ⟨t405, A120, H⟩ := H
     try dsimp -simprocs only at H
     have A12 := aS A120
     clear A120
     replace H := Option.bind_eq_some_iff.mp H
     obtain ⟨t408, A130, H⟩ := H
     try dsimp -simprocs only at H
     have A13 := aS A130
     clear A130
     by_cases c14 : t405.length + t408.length < 140737488355328
     ·rw [if_pos c14] at H
      have LMc14 := aS c14
      clear c14
      obtain ⟨y411, hy411⟩ : ∃ y_ : List Int, y_ = (t405 ++ t408) := ⟨_, rfl⟩
      first | with_reducible replace H := bindY hy411 H | rw [← hy411] at H | skip
      try dsimp -simprocs only at H
      have Ny411 := aS hy411
      clear hy411
      obtain ⟨y414, hy414⟩ : ∃ y_ : List Int, y_ = (([0, 0, 0, 0, 0, 0, 0, 0, 80, a4, 0, 0] : List Int)) := ⟨_, rfl⟩
      first | with_reducible replace H := bindY hy414 H | rw [← hy414] at H | skip
      try dsimp -simprocs only at H
      have Ny414 := aS hy414
      clear hy414
      by_cases c15 : y411.length + y414.length < 140737488355328
      ·rw [if_pos c15] at H
       have LMc15 := aS c15
       clear c15
       obtain ⟨y417, hy417⟩ : ∃ y_ : List Int, y_ = (y411 ++ y414) := ⟨_, rfl⟩
       first | with_reducible replace H := bindY hy417 H | rw [← hy417] at H | skip
       try dsimp -simprocs only at H
       have Ny417 := aS hy417
       clear hy417
       obtain ⟨y420, hy420⟩ : ∃ y_ : List Int, y_ = (([0, 0] : List Int)) := ⟨_, rfl⟩
       first | with_reducible replace H := bindY hy420 H | rw [← hy420] at H | skip
       try dsimp -simprocs only at H
       have Ny420 := aS hy420
       clear hy420
       by_cases c16 : y420.length + l5.length < 140737488355328
       ·rw [if_pos c16] at H
        have LMc16 := aS c16
        clear c16
        obtain ⟨y423, hy423⟩ : ∃ y_ : List Int, y_ = (y420 ++ l5) := ⟨_, rfl⟩
        first | with_reducible replace H := bindY hy423 H | rw [← hy423] at H | skip
        try dsimp -simprocs only at H
        have Ny423 := aS hy423
        clear hy423
        obtain ⟨y426, hy426⟩ : ∃ y_ : List Int, y_ = (([] : List Int)) := ⟨_, rfl⟩
        first | with_reducible replace H := bindY hy426 H | rw [← hy426] at H | skip
        try dsimp -simprocs only at H
        have Ny426 := aS hy426
        clear hy426
        by_cases c17 : y426.length + y417.length < 140737488355328
        ·rw [if_pos c17] at H
         have LMc17 := aS c17
         clear c17
         obtain ⟨y429, hy429⟩ : ∃ y_ : List Int, y_ = (y426 ++ y417) := ⟨_, rfl⟩
         first | with_reducible replace H := bindY hy429 H | rw [← hy429] at H | skip
         try dsimp -simprocs only at H
         have Ny429 := aS hy429
         clear hy429
         obtain ⟨y432, hy432⟩ : ∃ y_ : List Int, y_ = (([0, 0] : List Int)) := ⟨_, rfl⟩
         first | with_reducible replace H := bindY hy432 H | rw [← hy432] at H | skip
         try dsimp -simprocs only at H
         have Ny432 := aS hy432
         clear hy432
         by_cases c18 : y429.length + y432.length < 140737488355328
         ·rw [if_pos c18] at H
          have LMc18 := aS c18
          clear c18
          obtain ⟨y435, hy435⟩ : ∃ y_ : List Int, y_ = (y429 ++ y432) := ⟨_, rfl⟩
          first | with_reducible replace H := bindY hy435 H | rw [← hy435] at H | skip
          try dsimp -simprocs only at H
          have Ny435 := aS hy435
          clear hy435
          by_cases c19 : y435.length + y423.length < 140737488355328
          ·rw [if_pos c19] at H
           have LMc19 := aS c19
           clear c19
           obtain ⟨y438, hy438⟩ : ∃ y_ : List Int, y_ = (y435 ++ y423) := ⟨_, rfl⟩
           first | with_reducible replace H := bindY hy438 H | rw [← hy438] at H | skip
           try dsimp -simprocs only at H
           have Ny438 := aS hy438
           clear hy438
           replace H := Option.bind_eq_some_iff.mp H
           obtain ⟨t441, A200, H⟩ := H
           try dsimp -simprocs only at H
           have A20 := aS A200
           clear A200
           replace H := Option.bind_eq_some_iff.mp H
           obtain ⟨t442, A210, H⟩ := H
           try dsimp -simprocs only at H
           have A21 := aS A210
           clear A210
           replace H := Option.bind_eq_some_iff.mp H
           obtain ⟨t443, A220, H⟩ := H
           try dsimp -simprocs only at H
           have A22 := aS A220
           clear A220
           by_cases c23 : y417.length + t443.length < 140737488355328
           ·rw [if_pos c23] at H
            have LMc23 := aS c23
            clear c23
            obtain ⟨y446, hy446⟩ : ∃ y_ : List Int, y_ = (y417 ++ t443) := ⟨_, rfl⟩
            first | with_reducible replace H := bindY hy446 H | rw [← hy446] at H | skip
            try dsimp -simprocs only at H
            have Ny446 := aS hy446
            clear hy446
            by_cases c24 : y446.length + y423.length < 140737488355328
            ·rw [if_pos c24] at H
             have LMc24 := aS c24
             clear c24
             obtain ⟨y449, hy449⟩ : ∃ y_ : List Int, y_ = (y446 ++ y423) := ⟨_, rfl⟩
             first | with_reducible replace H := bindY hy449 H | rw [← hy449] at H | skip
             try dsimp -simprocs only at H
             have Ny449 := aS hy449
             clear hy449
             simp only [Option.some.injEq, Prod.mk.injEq] at H
             obtain ⟨rfl, rfl⟩ := H
             go_wp2_with (first | ((with_reducible refine gate_callee (f := 71) rfl ?_); refine goesL_ (some 30) rfl rfl Try.func71 (by kernel_rfl) rfl #[.int .i64 (wrap64 (a2))] rfl (by (try simp only [List.map_toArray, List.map_cons, List.map_nil]); first | done | rfl) ?_; (with_reducible refine (mantletref04_Put.calls (wrap64 (a2)) t405 _ A12.out).mono ?_); rintro e w25 ⟨v406, rfl, ho0, hb⟩; refine ⟨_, rfl, ?_⟩; have HO407 := aS (Kd.R_lower ho0 (below_size (tB HB.out))); replace HB := aS (below_step (tB HB.out) hb); (try clear hb); (try clear hb2); (try clear hk); (try clear hi); (try clear ho0)) | ((with_reducible refine gate_callee (f := 71) rfl ?_); refine goesL_ (some 33) rfl rfl Try.func71 (by kernel_rfl) rfl #[.int .i64 (wrap64 (a3))] rfl (by (try simp only [List.map_toArray, List.map_cons, List.map_nil]); first | done | rfl) ?_; (with_reducible refine (mantletref04_Put.calls (wrap64 (a3)) t408 _ A13.out).mono ?_); rintro e w26 ⟨v409, rfl, ho0, hb⟩; refine ⟨_, rfl, ?_⟩; have HO410 := aS (Kd.R_lower (Kd.R_new' ho0 (Kd.R_lt (tR HO407.out))) (below_size (tB HB.out))); replace HO407 := aS (Kd.R_elder' (tR HO407.out) (Kd.R_base ho0) hb); replace HB := aS (below_step (tB HB.out) hb); (try clear hb); (try clear hb2); (try clear hk); (try clear hi); (try clear ho0); obtain ⟨Ao28, co28, eo28⟩ := Kd.R_slice HO410.out; subst eo28) | ((with_reducible refine gate_builtin (b := .append) (xs := #[.tmp 30, .tmp 33]) rfl ?_); at_builtin; refine Kd.R_append_rows (Kd.int .u8) (w0 := w) w.heap.size rfl (.tmp 30) (.tmp 33) 22 5 (.int .u8 0) 1 rfl Try.underlying22 info5 rfl (by decide) (by omega) v406 t405 t408 _ _ _ (fun k_ => some k_ ≠ (.slice Ao28 t408.length co28 : Value).ownBlock) (fun _ => False) rfl rfl ?aO ?aR (fun _ _ h => h) (fun _ h => h.elim) ?aF ?aB ?aS ?aL ?_; (case aR => repeat (first | exact (Kd.R_reads' HO410.out).2.2 | (with_reducible refine Kd.C_alloc ?_ _) | (with_reducible refine Kd.C_drewN ?_ _) | (with_reducible refine Kd.C_drew ?_))); (case aB => exact (tB HB.out)); (case aF => exact (fun k_ hk => Kd.fresh' (Kd.R_lt (tR HO410.out)) k_ hk)); (case aO => exact (tR (Kd.R_mono HO407.out (fun _ hk => hk.2)))); (case aS => exact (below_size (tB HB.out))); (case aL => have := LMc14.out; omega); intro v412 w27 ho hb hg hat; rw [← Ny411.out] at ho; replace HO410 := aS (Kd.R_after (ok := (fun _ => True)) (tR HO410.out) hg hat); replace HB := aS (hb); have HO413 := aS (ho); clear HO407; clear ho hb hg hat) | ((with_reducible refine gate_dst (N := 37) rfl ?_); refine Kd.R_lit (Kd.int .u8) _ 5 ?hg (N := 37) ?hd (xs := ([0, 0, 0, 0, 0, 0, 0, 0, 80, a4, 0, 0] : List Int)) (inner := [.int .u8 0, .int .u8 0, .int .u8 0, .int .u8 0, .int .u8 0, .int .u8 0, .int .u8 0, .int .u8 0, .int .u8 80, .int .u8 a4, .int .u8 0, .int .u8 0]) (ok := fun _ => True) (okp := fun _ => True) ?hr ?hp (fun _ hk => hk) trivial (Below.refl _ _) (Nat.le_refl _) (by simp) ?_; (case hd => rfl); (case hg => rfl); (case hr => first | (go_simp; done) | (go_simp; rfl)); (case hp => exact (Reps.one (show Kd.M (Kd.int .u8) _ _ _ 0 [.int .u8 0] from rfl) (Reps.one (show Kd.M (Kd.int .u8) _ _ _ 0 [.int .u8 0] from rfl) (Reps.one (show Kd.M (Kd.int .u8) _ _ _ 0 [.int .u8 0] from rfl) (Reps.one (show Kd.M (Kd.int .u8) _ _ _ 0 [.int .u8 0] from rfl) (Reps.one (show Kd.M (Kd.int .u8) _ _ _ 0 [.int .u8 0] from rfl) (Reps.one (show Kd.M (Kd.int .u8) _ _ _ 0 [.int .u8 0] from rfl) (Reps.one (show Kd.M (Kd.int .u8) _ _ _ 0 [.int .u8 0] from rfl) (Reps.one (show Kd.M (Kd.int .u8) _ _ _ 0 [.int .u8 0] from rfl) (Reps.one (show Kd.M (Kd.int .u8) _ _ _ 80 [.int .u8 80] from rfl) (Reps.one (show Kd.M (Kd.int .u8) _ _ _ a4 [.int .u8 a4] from rfl) (Reps.one (show Kd.M (Kd.int .u8) _ _ _ 0 [.int .u8 0] from rfl) (Reps.one (show Kd.M (Kd.int .u8) _ _ _ 0 [.int .u8 0] from rfl) (Reps.none _ _)))))))))))))); intro v415 w29 ho30 hb hg_ hnew_; clear hg_ hnew_; (first | rw [← Ny414.out] at ho30 | (simp only [Int.reduceToNat] at ho30; rw [← Ny414.out] at ho30)); have HO416 := aS (Kd.R_lower (Kd.R_new' (Kd.R_new' ho30 (Kd.R_lt (tR HO410.out))) (Kd.R_lt (tR HO413.out))) (below_size (tB HB.out))); replace HO410 := aS (Kd.R_elder' (tR HO410.out) (Kd.R_base ho30) hb); replace HO413 := aS (Kd.R_elder' (tR HO413.out) (Kd.R_base ho30) hb); replace HB := aS (below_step (tB HB.out) hb); clear hb ho30; obtain ⟨Ao32, co32, eo32⟩ := Kd.R_slice HO416.out; subst eo32) | ((with_reducible refine gate_builtin (b := .append) (xs := #[.tmp 35, .tmp 37]) rfl ?_); at_builtin; refine Kd.R_append_rows (Kd.int .u8) (w0 := w) w.heap.size rfl (.tmp 35) (.tmp 37) 22 5 (.int .u8 0) 1 rfl Try.underlying22 info5 rfl (by decide) (by omega) v412 y411 y414 _ _ _ (fun k_ => some k_ ≠ (.slice Ao28 t408.length co28 : Value).ownBlock ∧ some k_ ≠ (.slice Ao32 y414.length co32 : Value).ownBlock) (fun _ => False) rfl rfl ?aO ?aR (fun _ _ h => h) (fun _ h => h.elim) ?aF ?aB ?aS ?aL ?_; (case aR => repeat (first | exact (Kd.R_reads' HO416.out).2.2 | (with_reducible refine Kd.C_alloc ?_ _) | (with_reducible refine Kd.C_drewN ?_ _) | (with_reducible refine Kd.C_drew ?_))); (case aB => exact (tB HB.out)); (case aF => exact (fun k_ hk => ⟨Kd.fresh' (Kd.R_lt (tR HO410.out)) k_ hk, Kd.fresh' (Kd.R_lt (tR HO416.out)) k_ hk⟩)); (case aO => exact (tR HO413.out)); (case aS => exact (below_size (tB HB.out))); (case aL => have := LMc15.out; omega); intro v418 w31 ho hb hg hat; rw [← Ny417.out] at ho; replace HO410 := aS (Kd.R_after (ok := (fun k_ => some k_ ≠ (.slice Ao32 y414.length co32 : Value).ownBlock)) (tR (Kd.R_mono HO410.out (fun _ hk => ⟨hk.2, hk.1.2⟩))) hg hat); replace HO416 := aS (Kd.R_after (ok := (fun k_ => some k_ ≠ (.slice Ao28 t408.length co28 : Value).ownBlock)) (tR (Kd.R_mono HO416.out (fun _ hk => ⟨hk.1.2, hk.2⟩))) hg hat); replace HB := aS (hb); have HO419 := aS (ho); clear HO413; clear ho hb hg hat) | ((with_reducible refine gate_dst (N := 39) rfl ?_); refine Kd.R_lit (Kd.int .u8) _ 5 ?hg (N := 39) ?hd (xs := ([0, 0] : List Int)) (inner := [.int .u8 0, .int .u8 0]) (ok := fun _ => True) (okp := fun _ => True) ?hr ?hp (fun _ hk => hk) trivial (Below.refl _ _) (Nat.le_refl _) (by simp) ?_; (case hd => rfl); (case hg => rfl); (case hr => first | (go_simp; done) | (go_simp; rfl)); (case hp => exact (Reps.one (show Kd.M (Kd.int .u8) _ _ _ 0 [.int .u8 0] from rfl) (Reps.one (show Kd.M (Kd.int .u8) _ _ _ 0 [.int .u8 0] from rfl) (Reps.none _ _)))); intro v421 w33 ho34 hb hg_ hnew_; clear hg_ hnew_; (first | rw [← Ny420.out] at ho34 | (simp only [Int.reduceToNat] at ho34; rw [← Ny420.out] at ho34)); have HO422 := aS (Kd.R_lower (Kd.R_new' (Kd.R_new' (Kd.R_new' ho34 (Kd.R_lt (tR HO410.out))) (Kd.R_lt (tR HO416.out))) (Kd.R_lt (tR HO419.out))) (below_size (tB HB.out))); replace HO410 := aS (Kd.R_elder' (tR HO410.out) (Kd.R_base ho34) hb); replace HO416 := aS (Kd.R_elder' (tR HO416.out) (Kd.R_base ho34) hb); replace HO419 := aS (Kd.R_elder' (tR HO419.out) (Kd.R_base ho34) hb); replace HB := aS (below_step (tB HB.out) hb); clear hb ho34) | ((with_reducible refine gate_builtin (b := .append) (xs := #[.tmp 39, .tmp 40]) rfl ?_); at_builtin; refine Kd.R_append_rows (Kd.int .u8) (w0 := w) w.heap.size rfl (.tmp 39) (.tmp 40) 22 5 (.int .u8 0) 1 rfl Try.underlying22 info5 rfl (by decide) (by omega) v421 y420 l5 _ _ _ (fun k_ => some k_ ≠ (.slice Ao28 t408.length co28 : Value).ownBlock ∧ some k_ ≠ (.slice Ao32 y414.length co32 : Value).ownBlock ∧ some k_ ≠ (v418 : Value).ownBlock) (fun _ => False) rfl rfl ?aO ?aR (fun _ _ h => h) (fun _ h => h.elim) ?aF ?aB ?aS ?aL ?_; (case aR => repeat (first | exact (Kd.C_below HR5.out HB.out) | (with_reducible refine Kd.C_alloc ?_ _) | (with_reducible refine Kd.C_drewN ?_ _) | (with_reducible refine Kd.C_drew ?_))); (case aB => exact (tB HB.out)); (case aF => exact (fun k_ hk => ⟨Kd.fresh' (Kd.R_lt (tR HO410.out)) k_ hk, Kd.fresh' (Kd.R_lt (tR HO416.out)) k_ hk, Kd.fresh' (Kd.R_lt (tR HO419.out)) k_ hk⟩)); (case aO => exact (tR (Kd.R_mono HO422.out (fun _ hk => ⟨hk.1.1.2, ⟨hk.1.2, hk.2⟩⟩)))); (case aS => exact (below_size (tB HB.out))); (case aL => have := LMc16.out; omega); intro v424 w35 ho hb hg hat; rw [← Ny423.out] at ho; replace HO410 := aS (Kd.R_after (ok := (fun k_ => some k_ ≠ (.slice Ao32 y414.length co32 : Value).ownBlock ∧ some k_ ≠ (v418 : Value).ownBlock)) (tR HO410.out) hg hat); replace HO416 := aS (Kd.R_after (ok := (fun k_ => some k_ ≠ (.slice Ao28 t408.length co28 : Value).ownBlock ∧ some k_ ≠ (v418 : Value).ownBlock)) (tR HO416.out) hg hat); replace HO419 := aS (Kd.R_after (ok := (fun k_ => some k_ ≠ (.slice Ao28 t408.length co28 : Value).ownBlock ∧ some k_ ≠ (.slice Ao32 y414.length co32 : Value).ownBlock)) (tR HO419.out) hg hat); replace HB := aS (hb); have HO425 := aS (ho); clear HO422; clear ho hb hg hat) | ((with_reducible refine gate_dst (N := 42) rfl ?_); refine Kd.R_lit (Kd.int .u8) _ 5 ?hg (N := 42) ?hd (xs := ([] : List Int)) (inner := []) (ok := fun _ => True) (okp := fun _ => True) ?hr ?hp (fun _ hk => hk) trivial (Below.refl _ _) (Nat.le_refl _) (by simp) ?_; (case hd => rfl); (case hg => rfl); (case hr => first | (go_simp; done) | (go_simp; rfl)); (case hp => exact (Reps.none _ _)); intro v427 w36 ho37 hb hg_ hnew_; clear hg_ hnew_; (first | rw [← Ny426.out] at ho37 | (simp only [Int.reduceToNat] at ho37; rw [← Ny426.out] at ho37)); have HO428 := aS (Kd.R_lower (Kd.R_new' (Kd.R_new' (Kd.R_new' (Kd.R_new' ho37 (Kd.R_lt (tR HO410.out))) (Kd.R_lt (tR HO416.out))) (Kd.R_lt (tR HO419.out))) (Kd.R_lt (tR HO425.out))) (below_size (tB HB.out))); replace HO410 := aS (Kd.R_elder' (tR HO410.out) (Kd.R_base ho37) hb); replace HO416 := aS (Kd.R_elder' (tR HO416.out) (Kd.R_base ho37) hb); replace HO419 := aS (Kd.R_elder' (tR HO419.out) (Kd.R_base ho37) hb); replace HO425 := aS (Kd.R_elder' (tR HO425.out) (Kd.R_base ho37) hb); replace HB := aS (below_step (tB HB.out) hb); clear hb ho37; obtain ⟨Ao39, co39, eo39⟩ := Kd.R_slice HO419.out; subst eo39) | ((with_reducible refine gate_builtin (b := .append) (xs := #[.tmp 42, .tmp 43]) rfl ?_); at_builtin; refine Kd.R_append_rows (Kd.int .u8) (w0 := w) w.heap.size rfl (.tmp 42) (.tmp 43) 22 5 (.int .u8 0) 1 rfl Try.underlying22 info5 rfl (by decide) (by omega) v427 y426 y417 _ _ _ (fun k_ => some k_ ≠ (.slice Ao28 t408.length co28 : Value).ownBlock ∧ some k_ ≠ (.slice Ao32 y414.length co32 : Value).ownBlock ∧ some k_ ≠ (.slice Ao39 y417.length co39 : Value).ownBlock ∧ some k_ ≠ (v424 : Value).ownBlock) (fun _ => False) rfl rfl ?aO ?aR (fun _ _ h => h) (fun _ h => h.elim) ?aF ?aB ?aS ?aL ?_; (case aR => repeat (first | exact (Kd.R_reads' HO419.out).2.2 | (with_reducible refine Kd.C_alloc ?_ _) | (with_reducible refine Kd.C_drewN ?_ _) | (with_reducible refine Kd.C_drew ?_))); (case aB => exact (tB HB.out)); (case aF => exact (fun k_ hk => ⟨Kd.fresh' (Kd.R_lt (tR HO410.out)) k_ hk, Kd.fresh' (Kd.R_lt (tR HO416.out)) k_ hk, Kd.fresh' (Kd.R_lt (tR HO419.out)) k_ hk, Kd.fresh' (Kd.R_lt (tR HO425.out)) k_ hk⟩)); (case aO => exact (tR (Kd.R_mono HO428.out (fun _ hk => ⟨hk.1.1.1.2, ⟨hk.1.1.2, ⟨hk.1.2, hk.2⟩⟩⟩)))); (case aS => exact (below_size (tB HB.out))); (case aL => have := LMc17.out; omega); intro v430 w38 ho hb hg hat; rw [← Ny429.out] at ho; replace HO410 := aS (Kd.R_after (ok := (fun k_ => some k_ ≠ (.slice Ao32 y414.length co32 : Value).ownBlock ∧ some k_ ≠ (.slice Ao39 y417.length co39 : Value).ownBlock ∧ some k_ ≠ (v424 : Value).ownBlock)) (tR (Kd.R_mono HO410.out (fun _ hk => ⟨⟨hk.1.1.1, ⟨hk.1.1.2, hk.1.2⟩⟩, hk.2⟩))) hg hat); replace HO416 := aS (Kd.R_after (ok := (fun k_ => some k_ ≠ (.slice Ao28 t408.length co28 : Value).ownBlock ∧ some k_ ≠ (.slice Ao39 y417.length co39 : Value).ownBlock ∧ some k_ ≠ (v424 : Value).ownBlock)) (tR (Kd.R_mono HO416.out (fun _ hk => ⟨⟨hk.1.1.1, ⟨hk.1.1.2, hk.1.2⟩⟩, hk.2⟩))) hg hat); replace HO419 := aS (Kd.R_after (ok := (fun k_ => some k_ ≠ (.slice Ao28 t408.length co28 : Value).ownBlock ∧ some k_ ≠ (.slice Ao32 y414.length co32 : Value).ownBlock ∧ some k_ ≠ (v424 : Value).ownBlock)) (tR (Kd.R_mono HO419.out (fun _ hk => ⟨⟨hk.1.1.1, ⟨hk.1.1.2, hk.1.2⟩⟩, hk.2⟩))) hg hat); replace HO425 := aS (Kd.R_after (ok := (fun k_ => some k_ ≠ (.slice Ao28 t408.length co28 : Value).ownBlock ∧ some k_ ≠ (.slice Ao32 y414.length co32 : Value).ownBlock ∧ some k_ ≠ (.slice Ao39 y417.length co39 : Value).ownBlock)) (tR HO425.out) hg hat); replace HB := aS (hb); have HO431 := aS (ho); clear HO428; clear ho hb hg hat) | ((with_reducible refine gate_dst (N := 45) rfl ?_); refine Kd.R_lit (Kd.int .u8) _ 5 ?hg (N := 45) ?hd (xs := ([0, 0] : List Int)) (inner := [.int .u8 0, .int .u8 0]) (ok := fun _ => True) (okp := fun _ => True) ?hr ?hp (fun _ hk => hk) trivial (Below.refl _ _) (Nat.le_refl _) (by simp) ?_; (case hd => rfl); (case hg => rfl); (case hr => first | (go_simp; done) | (go_simp; rfl)); (case hp => exact (Reps.one (show Kd.M (Kd.int .u8) _ _ _ 0 [.int .u8 0] from rfl) (Reps.one (show Kd.M (Kd.int .u8) _ _ _ 0 [.int .u8 0] from rfl) (Reps.none _ _)))); intro v433 w40 ho41 hb hg_ hnew_; clear hg_ hnew_; (first | rw [← Ny432.out] at ho41 | (simp only [Int.reduceToNat] at ho41; rw [← Ny432.out] at ho41)); have HO434 := aS (Kd.R_lower (Kd.R_new' (Kd.R_new' (Kd.R_new' (Kd.R_new' (Kd.R_new' ho41 (Kd.R_lt (tR HO410.out))) (Kd.R_lt (tR HO416.out))) (Kd.R_lt (tR HO419.out))) (Kd.R_lt (tR HO425.out))) (Kd.R_lt (tR HO431.out))) (below_size (tB HB.out))); replace HO410 := aS (Kd.R_elder' (tR HO410.out) (Kd.R_base ho41) hb); replace HO416 := aS (Kd.R_elder' (tR HO416.out) (Kd.R_base ho41) hb); replace HO419 := aS (Kd.R_elder' (tR HO419.out) (Kd.R_base ho41) hb); replace HO425 := aS (Kd.R_elder' (tR HO425.out) (Kd.R_base ho41) hb); replace HO431 := aS (Kd.R_elder' (tR HO431.out) (Kd.R_base ho41) hb); replace HB := aS (below_step (tB HB.out) hb); clear hb ho41; obtain ⟨Ao43, co43, eo43⟩ := Kd.R_slice HO434.out; subst eo43) | ((with_reducible refine gate_builtin (b := .append) (xs := #[.tmp 44, .tmp 45]) rfl ?_); at_builtin; refine Kd.R_append_rows (Kd.int .u8) (w0 := w) w.heap.size rfl (.tmp 44) (.tmp 45) 22 5 (.int .u8 0) 1 rfl Try.underlying22 info5 rfl (by decide) (by omega) v430 y429 y432 _ _ _ (fun k_ => some k_ ≠ (.slice Ao28 t408.length co28 : Value).ownBlock ∧ some k_ ≠ (.slice Ao32 y414.length co32 : Value).ownBlock ∧ some k_ ≠ (.slice Ao39 y417.length co39 : Value).ownBlock ∧ some k_ ≠ (v424 : Value).ownBlock ∧ some k_ ≠ (.slice Ao43 y432.length co43 : Value).ownBlock) (fun _ => False) rfl rfl ?aO ?aR (fun _ _ h => h) (fun _ h => h.elim) ?aF ?aB ?aS ?aL ?_; (case aR => repeat (first | exact (Kd.R_reads' HO434.out).2.2 | (with_reducible refine Kd.C_alloc ?_ _) | (with_reducible refine Kd.C_drewN ?_ _) | (with_reducible refine Kd.C_drew ?_))); (case aB => exact (tB HB.out)); (case aF => exact (fun k_ hk => ⟨Kd.fresh' (Kd.R_lt (tR HO410.out)) k_ hk, Kd.fresh' (Kd.R_lt (tR HO416.out)) k_ hk, Kd.fresh' (Kd.R_lt (tR HO419.out)) k_ hk, Kd.fresh' (Kd.R_lt (tR HO425.out)) k_ hk, Kd.fresh' (Kd.R_lt (tR HO434.out)) k_ hk⟩)); (case aO => exact (tR (Kd.R_mono HO431.out (fun _ hk => ⟨hk.1.1, ⟨hk.1.2.1, ⟨hk.1.2.2.1, ⟨hk.1.2.2.2, hk.2⟩⟩⟩⟩)))); (case aS => exact (below_size (tB HB.out))); (case aL => have := LMc18.out; omega); intro v436 w42 ho hb hg hat; rw [← Ny435.out] at ho; replace HO410 := aS (Kd.R_after (ok := (fun k_ => some k_ ≠ (.slice Ao32 y414.length co32 : Value).ownBlock ∧ some k_ ≠ (.slice Ao39 y417.length co39 : Value).ownBlock ∧ some k_ ≠ (v424 : Value).ownBlock ∧ some k_ ≠ (.slice Ao43 y432.length co43 : Value).ownBlock)) (tR (Kd.R_mono HO410.out (fun _ hk => ⟨⟨hk.1.1.1, ⟨hk.1.1.2.1, ⟨hk.1.1.2.2, hk.2⟩⟩⟩, hk.1.2⟩))) hg hat); replace HO416 := aS (Kd.R_after (ok := (fun k_ => some k_ ≠ (.slice Ao28 t408.length co28 : Value).ownBlock ∧ some k_ ≠ (.slice Ao39 y417.length co39 : Value).ownBlock ∧ some k_ ≠ (v424 : Value).ownBlock ∧ some k_ ≠ (.slice Ao43 y432.length co43 : Value).ownBlock)) (tR (Kd.R_mono HO416.out (fun _ hk => ⟨⟨hk.1.1.1, ⟨hk.1.1.2.1, ⟨hk.1.1.2.2, hk.2⟩⟩⟩, hk.1.2⟩))) hg hat); replace HO419 := aS (Kd.R_after (ok := (fun k_ => some k_ ≠ (.slice Ao28 t408.length co28 : Value).ownBlock ∧ some k_ ≠ (.slice Ao32 y414.length co32 : Value).ownBlock ∧ some k_ ≠ (v424 : Value).ownBlock ∧ some k_ ≠ (.slice Ao43 y432.length co43 : Value).ownBlock)) (tR (Kd.R_mono HO419.out (fun _ hk => ⟨⟨hk.1.1.1, ⟨hk.1.1.2.1, ⟨hk.1.1.2.2, hk.2⟩⟩⟩, hk.1.2⟩))) hg hat); replace HO425 := aS (Kd.R_after (ok := (fun k_ => some k_ ≠ (.slice Ao28 t408.length co28 : Value).ownBlock ∧ some k_ ≠ (.slice Ao32 y414.length co32 : Value).ownBlock ∧ some k_ ≠ (.slice Ao39 y417.length co39 : Value).ownBlock ∧ some k_ ≠ (.slice Ao43 y432.length co43 : Value).ownBlock)) (tR (Kd.R_mono HO425.out (fun _ hk => ⟨⟨hk.1.1.1, ⟨hk.1.1.2.1, ⟨hk.1.1.2.2, hk.2⟩⟩⟩, hk.1.2⟩))) hg hat); replace HO434 := aS (Kd.R_after (ok := (fun k_ => some k_ ≠ (.slice Ao28 t408.length co28 : Value).ownBlock ∧ some k_ ≠ (.slice Ao32 y414.length co32 : Value).ownBlock ∧ some k_ ≠ (.slice Ao39 y417.length co39 : Value).ownBlock ∧ some k_ ≠ (v424 : Value).ownBlock)) (tR (Kd.R_mono HO434.out (fun _ hk => ⟨⟨hk.1.1.1.1.2, ⟨hk.1.1.1.2, ⟨hk.1.1.2, hk.1.2⟩⟩⟩, hk.2⟩))) hg hat); replace HB := aS (hb); have HO437 := aS (ho); clear HO431; clear ho hb hg hat; obtain ⟨Ao45, co45, eo45⟩ := Kd.R_slice HO425.out; subst eo45) | ((with_reducible refine gate_builtin (b := .append) (xs := #[.tmp 46, .tmp 47]) rfl ?_); at_builtin; refine Kd.R_append_rows (Kd.int .u8) (w0 := w) w.heap.size rfl (.tmp 46) (.tmp 47) 22 5 (.int .u8 0) 1 rfl Try.underlying22 info5 rfl (by decide) (by omega) v436 y435 y423 _ _ _ (fun k_ => some k_ ≠ (.slice Ao28 t408.length co28 : Value).ownBlock ∧ some k_ ≠ (.slice Ao32 y414.length co32 : Value).ownBlock ∧ some k_ ≠ (.slice Ao39 y417.length co39 : Value).ownBlock ∧ some k_ ≠ (.slice Ao45 y423.length co45 : Value).ownBlock ∧ some k_ ≠ (.slice Ao43 y432.length co43 : Value).ownBlock) (fun _ => False) rfl rfl ?aO ?aR (fun _ _ h => h) (fun _ h => h.elim) ?aF ?aB ?aS ?aL ?_; (case aR => repeat (first | exact (Kd.R_reads' HO425.out).2.2 | (with_reducible refine Kd.C_alloc ?_ _) | (with_reducible refine Kd.C_drewN ?_ _) | (with_reducible refine Kd.C_drew ?_))); (case aB => exact (tB HB.out)); (case aF => exact (fun k_ hk => ⟨Kd.fresh' (Kd.R_lt (tR HO410.out)) k_ hk, Kd.fresh' (Kd.R_lt (tR HO416.out)) k_ hk, Kd.fresh' (Kd.R_lt (tR HO419.out)) k_ hk, Kd.fresh' (Kd.R_lt (tR HO425.out)) k_ hk, Kd.fresh' (Kd.R_lt (tR HO434.out)) k_ hk⟩)); (case aO => exact (tR HO437.out)); (case aS => exact (below_size (tB HB.out))); (case aL => have := LMc19.out; omega); intro v439 w44 ho hb hg hat; rw [← Ny438.out] at ho; replace HO410 := aS (Kd.R_after (ok := (fun k_ => some k_ ≠ (.slice Ao32 y414.length co32 : Value).ownBlock ∧ some k_ ≠ (.slice Ao39 y417.length co39 : Value).ownBlock ∧ some k_ ≠ (.slice Ao45 y423.length co45 : Value).ownBlock ∧ some k_ ≠ (.slice Ao43 y432.length co43 : Value).ownBlock)) (tR HO410.out) hg hat); replace HO416 := aS (Kd.R_after (ok := (fun k_ => some k_ ≠ (.slice Ao28 t408.length co28 : Value).ownBlock ∧ some k_ ≠ (.slice Ao39 y417.length co39 : Value).ownBlock ∧ some k_ ≠ (.slice Ao45 y423.length co45 : Value).ownBlock ∧ some k_ ≠ (.slice Ao43 y432.length co43 : Value).ownBlock)) (tR HO416.out) hg hat); replace HO419 := aS (Kd.R_after (ok := (fun k_ => some k_ ≠ (.slice Ao28 t408.length co28 : Value).ownBlock ∧ some k_ ≠ (.slice Ao32 y414.length co32 : Value).ownBlock ∧ some k_ ≠ (.slice Ao45 y423.length co45 : Value).ownBlock ∧ some k_ ≠ (.slice Ao43 y432.length co43 : Value).ownBlock)) (tR HO419.out) hg hat); replace HO425 := aS (Kd.R_after (ok := (fun k_ => some k_ ≠ (.slice Ao28 t408.length co28 : Value).ownBlock ∧ some k_ ≠ (.slice Ao32 y414.length co32 : Value).ownBlock ∧ some k_ ≠ (.slice Ao39 y417.length co39 : Value).ownBlock ∧ some k_ ≠ (.slice Ao43 y432.length co43 : Value).ownBlock)) (tR HO425.out) hg hat); replace HO434 := aS (Kd.R_after (ok := (fun k_ => some k_ ≠ (.slice Ao28 t408.length co28 : Value).ownBlock ∧ some k_ ≠ (.slice Ao32 y414.length co32 : Value).ownBlock ∧ some k_ ≠ (.slice Ao39 y417.length co39 : Value).ownBlock ∧ some k_ ≠ (.slice Ao45 y423.length co45 : Value).ownBlock)) (tR HO434.out) hg hat); replace HB := aS (hb); have HO440 := aS (ho); clear HO437; clear ho hb hg hat; obtain ⟨Ao46, co46, eo46⟩ := Kd.R_slice HO440.out; subst eo46) | ((with_reducible refine gate_callee (f := 39) rfl ?_); refine goesL_ (some 53) rfl rfl Try.func39 (by kernel_rfl) rfl #[.int .u8 6, .int .u32 a0, .int .u32 a1, .int .i64 (y438.length : Int)] rfl (by (try simp only [List.map_toArray, List.map_cons, List.map_nil]); first | done | rfl) ?_; (with_reducible refine (mantletref05_Pseudo.calls kj6 6 a0 a1 (y438.length : Int) t441 _ A20.out).mono ?_); rintro e w47 ⟨rfl, hb⟩; refine ⟨_, rfl, ?_⟩; replace HO410 := aS (Kd.R_below (tR HO410.out) hb); replace HO416 := aS (Kd.R_below (tR HO416.out) hb); replace HO419 := aS (Kd.R_below (tR HO419.out) hb); replace HO425 := aS (Kd.R_below (tR HO425.out) hb); replace HO434 := aS (Kd.R_below (tR HO434.out) hb); replace HO440 := aS (Kd.R_below (tR HO440.out) hb); replace HB := aS (below_step (tB HB.out) hb); (try clear hb); (try clear hb2); (try clear hk); (try clear hi)) | ((with_reducible refine gate_callee (f := 65) rfl ?_); refine goesL_ (some 55) rfl rfl Try.func65 (by kernel_rfl) rfl #[.int .i64 t441, .slice Ao46 y438.length co46] rfl (by (try simp only [List.map_toArray, List.map_cons, List.map_nil]); first | done | rfl) ?_; (with_reducible refine (mantletref02_Add.calls kj6 t441 _ _ y438 t442 _ ?side1 ?side2 A21.out).mono ?_); (case side1 => repeat (first | exact (Kd.R_reads' HO440.out).2.2 | (with_reducible refine Kd.C_alloc ?_ _) | (with_reducible refine Kd.C_drewN ?_ _) | (with_reducible refine Kd.C_drew ?_))); (case side2 => exact (Kd.R_reads' HO440.out).2.1); rintro e w' ⟨rfl, ⟨nd, rfl⟩⟩; refine ⟨_, rfl, ?_⟩) | ((with_reducible refine gate_callee (f := 71) rfl ?_); refine goesL_ (some 59) rfl rfl Try.func71 (by kernel_rfl) rfl #[.int .i64 (wrap64 (65535 - t442))] rfl (by (try simp only [List.map_toArray, List.map_cons, List.map_nil]); first | done | rfl) ?_; (with_reducible refine (mantletref04_Put.calls (wrap64 (65535 - t442)) t443 _ A22.out).mono ?_); rintro e w48 ⟨v444, rfl, ho0, hb⟩; refine ⟨_, rfl, ?_⟩; have HO445 := aS (Kd.R_lower (Kd.R_new' (Kd.R_new' (Kd.R_new' (Kd.R_new' (Kd.R_new' (Kd.R_new' ho0 (Kd.R_lt (tR HO410.out))) (Kd.R_lt (tR HO416.out))) (Kd.R_lt (tR HO419.out))) (Kd.R_lt (tR HO425.out))) (Kd.R_lt (tR HO434.out))) (Kd.R_lt (tR HO440.out))) (below_size (tB HB.out))); replace HO410 := aS (Kd.R_elder' (tR HO410.out) (Kd.R_base ho0) hb); replace HO416 := aS (Kd.R_elder' (tR HO416.out) (Kd.R_base ho0) hb); replace HO419 := aS (Kd.R_elder' (tR HO419.out) (Kd.R_base ho0) hb); replace HO425 := aS (Kd.R_elder' (tR HO425.out) (Kd.R_base ho0) hb); replace HO434 := aS (Kd.R_elder' (tR HO434.out) (Kd.R_base ho0) hb); replace HO440 := aS (Kd.R_elder' (tR HO440.out) (Kd.R_base ho0) hb); replace HB := aS (below_step (tB HB.out) hb); (try clear hb); (try clear hb2); (try clear hk); (try clear hi); (try clear ho0); obtain ⟨Ao50, co50, eo50⟩ := Kd.R_slice HO445.out; subst eo50) | ((with_reducible refine gate_builtin (b := .append) (xs := #[.tmp 57, .tmp 59]) rfl ?_); at_builtin; refine Kd.R_append_rows (Kd.int .u8) (w0 := w) w.heap.size rfl (.tmp 57) (.tmp 59) 22 5 (.int .u8 0) 1 rfl Try.underlying22 info5 rfl (by decide) (by omega) (.slice Ao39 y417.length co39) y417 t443 _ _ _ (fun k_ => some k_ ≠ (.slice Ao28 t408.length co28 : Value).ownBlock ∧ some k_ ≠ (.slice Ao32 y414.length co32 : Value).ownBlock ∧ some k_ ≠ (.slice Ao45 y423.length co45 : Value).ownBlock ∧ some k_ ≠ (.slice Ao43 y432.length co43 : Value).ownBlock ∧ some k_ ≠ (.slice Ao46 y438.length co46 : Value).ownBlock ∧ some k_ ≠ (.slice Ao50 t443.length co50 : Value).ownBlock) (fun _ => False) rfl rfl ?aO ?aR (fun _ _ h => h) (fun _ h => h.elim) ?aF ?aB ?aS ?aL ?_; (case aR => repeat (first | exact (Kd.R_reads' HO445.out).2.2 | (with_reducible refine Kd.C_alloc ?_ _) | (with_reducible refine Kd.C_drewN ?_ _) | (with_reducible refine Kd.C_drew ?_))); (case aB => exact (tB HB.out)); (case aF => exact (fun k_ hk => ⟨Kd.fresh' (Kd.R_lt (tR HO410.out)) k_ hk, Kd.fresh' (Kd.R_lt (tR HO416.out)) k_ hk, Kd.fresh' (Kd.R_lt (tR HO425.out)) k_ hk, Kd.fresh' (Kd.R_lt (tR HO434.out)) k_ hk, Kd.fresh' (Kd.R_lt (tR HO440.out)) k_ hk, Kd.fresh' (Kd.R_lt (tR HO445.out)) k_ hk⟩)); (case aO => exact (tR (Kd.R_mono HO419.out (fun _ hk => ⟨hk.1.1.1, ⟨hk.1.1.2.1, ⟨hk.1.1.2.2.1, ⟨hk.1.1.2.2.2, ⟨hk.1.2, hk.2⟩⟩⟩⟩⟩)))); (case aS => exact (below_size (tB HB.out))); (case aL => have := LMc23.out; omega); intro v447 w49 ho hb hg hat; rw [← Ny446.out] at ho; replace HO410 := aS (Kd.R_after (ok := (fun k_ => some k_ ≠ (.slice Ao32 y414.length co32 : Value).ownBlock ∧ some k_ ≠ (.slice Ao45 y423.length co45 : Value).ownBlock ∧ some k_ ≠ (.slice Ao43 y432.length co43 : Value).ownBlock ∧ some k_ ≠ (.slice Ao46 y438.length co46 : Value).ownBlock ∧ some k_ ≠ (.slice Ao50 t443.length co50 : Value).ownBlock)) (tR (Kd.R_mono HO410.out (fun _ hk => ⟨⟨hk.1.1.1, ⟨hk.1.1.2.2.1, ⟨hk.1.1.2.2.2, ⟨hk.1.2, hk.2⟩⟩⟩⟩, hk.1.1.2.1⟩))) hg hat); replace HO416 := aS (Kd.R_after (ok := (fun k_ => some k_ ≠ (.slice Ao28 t408.length co28 : Value).ownBlock ∧ some k_ ≠ (.slice Ao45 y423.length co45 : Value).ownBlock ∧ some k_ ≠ (.slice Ao43 y432.length co43 : Value).ownBlock ∧ some k_ ≠ (.slice Ao46 y438.length co46 : Value).ownBlock ∧ some k_ ≠ (.slice Ao50 t443.length co50 : Value).ownBlock)) (tR (Kd.R_mono HO416.out (fun _ hk => ⟨⟨hk.1.1.1, ⟨hk.1.1.2.2.1, ⟨hk.1.1.2.2.2, ⟨hk.1.2, hk.2⟩⟩⟩⟩, hk.1.1.2.1⟩))) hg hat); replace HO425 := aS (Kd.R_after (ok := (fun k_ => some k_ ≠ (.slice Ao28 t408.length co28 : Value).ownBlock ∧ some k_ ≠ (.slice Ao32 y414.length co32 : Value).ownBlock ∧ some k_ ≠ (.slice Ao43 y432.length co43 : Value).ownBlock ∧ some k_ ≠ (.slice Ao46 y438.length co46 : Value).ownBlock ∧ some k_ ≠ (.slice Ao50 t443.length co50 : Value).ownBlock)) (tR (Kd.R_mono HO425.out (fun _ hk => ⟨⟨hk.1.1.1, ⟨hk.1.1.2.1, ⟨hk.1.1.2.2.2, ⟨hk.1.2, hk.2⟩⟩⟩⟩, hk.1.1.2.2.1⟩))) hg hat); replace HO434 := aS (Kd.R_after (ok := (fun k_ => some k_ ≠ (.slice Ao28 t408.length co28 : Value).ownBlock ∧ some k_ ≠ (.slice Ao32 y414.length co32 : Value).ownBlock ∧ some k_ ≠ (.slice Ao45 y423.length co45 : Value).ownBlock ∧ some k_ ≠ (.slice Ao46 y438.length co46 : Value).ownBlock ∧ some k_ ≠ (.slice Ao50 t443.length co50 : Value).ownBlock)) (tR (Kd.R_mono HO434.out (fun _ hk => ⟨⟨hk.1.1.1, ⟨hk.1.1.2.1, ⟨hk.1.1.2.2.2, ⟨hk.1.2, hk.2⟩⟩⟩⟩, hk.1.1.2.2.1⟩))) hg hat); replace HO440 := aS (Kd.R_after (ok := (fun k_ => some k_ ≠ (.slice Ao28 t408.length co28 : Value).ownBlock ∧ some k_ ≠ (.slice Ao32 y414.length co32 : Value).ownBlock ∧ some k_ ≠ (.slice Ao45 y423.length co45 : Value).ownBlock ∧ some k_ ≠ (.slice Ao43 y432.length co43 : Value).ownBlock ∧ some k_ ≠ (.slice Ao50 t443.length co50 : Value).ownBlock)) (tR (Kd.R_mono HO440.out (fun _ hk => ⟨⟨hk.1.1, ⟨hk.1.2.1, ⟨hk.1.2.2.2.1, ⟨hk.1.2.2.2.2, hk.2⟩⟩⟩⟩, hk.1.2.2.1⟩))) hg hat); replace HO445 := aS (Kd.R_after (ok := (fun k_ => some k_ ≠ (.slice Ao28 t408.length co28 : Value).ownBlock ∧ some k_ ≠ (.slice Ao32 y414.length co32 : Value).ownBlock ∧ some k_ ≠ (.slice Ao45 y423.length co45 : Value).ownBlock ∧ some k_ ≠ (.slice Ao43 y432.length co43 : Value).ownBlock ∧ some k_ ≠ (.slice Ao46 y438.length co46 : Value).ownBlock)) (tR (Kd.R_mono HO445.out (fun _ hk => ⟨⟨hk.1.1.1.1.1.2, ⟨hk.1.1.1.1.2, ⟨hk.1.1.2, ⟨hk.1.2, hk.2⟩⟩⟩⟩, hk.1.1.1.2⟩))) hg hat); replace HB := aS (hb); have HO448 := aS (ho); clear HO419; clear ho hb hg hat) | ((with_reducible refine gate_builtin (b := .append) (xs := #[.tmp 60, .tmp 61]) rfl ?_); at_builtin; refine Kd.R_append_rows (Kd.int .u8) (w0 := w) w.heap.size rfl (.tmp 60) (.tmp 61) 22 5 (.int .u8 0) 1 rfl Try.underlying22 info5 rfl (by decide) (by omega) v447 y446 y423 _ _ _ (fun k_ => some k_ ≠ (.slice Ao28 t408.length co28 : Value).ownBlock ∧ some k_ ≠ (.slice Ao32 y414.length co32 : Value).ownBlock ∧ some k_ ≠ (.slice Ao45 y423.length co45 : Value).ownBlock ∧ some k_ ≠ (.slice Ao43 y432.length co43 : Value).ownBlock ∧ some k_ ≠ (.slice Ao46 y438.length co46 : Value).ownBlock ∧ some k_ ≠ (.slice Ao50 t443.length co50 : Value).ownBlock) (fun _ => False) rfl rfl ?aO ?aR (fun _ _ h => h) (fun _ h => h.elim) ?aF ?aB ?aS ?aL ?_; (case aR => repeat (first | exact (Kd.R_reads' HO425.out).2.2 | (with_reducible refine Kd.C_alloc ?_ _) | (with_reducible refine Kd.C_drewN ?_ _) | (with_reducible refine Kd.C_drew ?_))); (case aB => exact (tB HB.out)); (case aF => exact (fun k_ hk => ⟨Kd.fresh' (Kd.R_lt (tR HO410.out)) k_ hk, Kd.fresh' (Kd.R_lt (tR HO416.out)) k_ hk, Kd.fresh' (Kd.R_lt (tR HO425.out)) k_ hk, Kd.fresh' (Kd.R_lt (tR HO434.out)) k_ hk, Kd.fresh' (Kd.R_lt (tR HO440.out)) k_ hk, Kd.fresh' (Kd.R_lt (tR HO445.out)) k_ hk⟩)); (case aO => exact (tR HO448.out)); (case aS => exact (below_size (tB HB.out))); (case aL => have := LMc24.out; omega); intro v450 w51 ho hb hg hat; rw [← Ny449.out] at ho; replace HO410 := aS (Kd.R_after (ok := (fun k_ => some k_ ≠ (.slice Ao32 y414.length co32 : Value).ownBlock ∧ some k_ ≠ (.slice Ao45 y423.length co45 : Value).ownBlock ∧ some k_ ≠ (.slice Ao43 y432.length co43 : Value).ownBlock ∧ some k_ ≠ (.slice Ao46 y438.length co46 : Value).ownBlock ∧ some k_ ≠ (.slice Ao50 t443.length co50 : Value).ownBlock)) (tR HO410.out) hg hat); replace HO416 := aS (Kd.R_after (ok := (fun k_ => some k_ ≠ (.slice Ao28 t408.length co28 : Value).ownBlock ∧ some k_ ≠ (.slice Ao45 y423.length co45 : Value).ownBlock ∧ some k_ ≠ (.slice Ao43 y432.length co43 : Value).ownBlock ∧ some k_ ≠ (.slice Ao46 y438.length co46 : Value).ownBlock ∧ some k_ ≠ (.slice Ao50 t443.length co50 : Value).ownBlock)) (tR HO416.out) hg hat); replace HO425 := aS (Kd.R_after (ok := (fun k_ => some k_ ≠ (.slice Ao28 t408.length co28 : Value).ownBlock ∧ some k_ ≠ (.slice Ao32 y414.length co32 : Value).ownBlock ∧ some k_ ≠ (.slice Ao43 y432.length co43 : Value).ownBlock ∧ some k_ ≠ (.slice Ao46 y438.length co46 : Value).ownBlock ∧ some k_ ≠ (.slice Ao50 t443.length co50 : Value).ownBlock)) (tR HO425.out) hg hat); replace HO434 := aS (Kd.R_after (ok := (fun k_ => some k_ ≠ (.slice Ao28 t408.length co28 : Value).ownBlock ∧ some k_ ≠ (.slice Ao32 y414.length co32 : Value).ownBlock ∧ some k_ ≠ (.slice Ao45 y423.length co45 : Value).ownBlock ∧ some k_ ≠ (.slice Ao46 y438.length co46 : Value).ownBlock ∧ some k_ ≠ (.slice Ao50 t443.length co50 : Value).ownBlock)) (tR HO434.out) hg hat); replace HO440 := aS (Kd.R_after (ok := (fun k_ => some k_ ≠ (.slice Ao28 t408.length co28 : Value).ownBlock ∧ some k_ ≠ (.slice Ao32 y414.length co32 : Value).ownBlock ∧ some k_ ≠ (.slice Ao45 y423.length co45 : Value).ownBlock ∧ some k_ ≠ (.slice Ao43 y432.length co43 : Value).ownBlock ∧ some k_ ≠ (.slice Ao50 t443.length co50 : Value).ownBlock)) (tR HO440.out) hg hat); replace HO445 := aS (Kd.R_after (ok := (fun k_ => some k_ ≠ (.slice Ao28 t408.length co28 : Value).ownBlock ∧ some k_ ≠ (.slice Ao32 y414.length co32 : Value).ownBlock ∧ some k_ ≠ (.slice Ao45 y423.length co45 : Value).ownBlock ∧ some k_ ≠ (.slice Ao43 y432.length co43 : Value).ownBlock ∧ some k_ ≠ (.slice Ao46 y438.length co46 : Value).ownBlock)) (tR HO445.out) hg hat); replace HB := aS (hb); have HO451 := aS (ho); clear HO448; clear ho hb hg hat))
             go_ret2
             exact ⟨_, by first | rfl | (simp [errW_none, errW_some] <;> rfl) | (simp [*, errW_none, errW_some] <;> rfl), by (with_reducible repeat apply mR); exact Kd.R_mono HO451.out (fun _ hk => trivial), tB HB.out⟩
            ·rw [if_neg c24] at H
             exact absurd H (by simp)
           ·rw [if_neg c23] at H
            exact absurd H (by simp)
          ·rw [if_neg c19] at H
           exact absurd H (by simp)
         ·rw [if_neg c18] at H
          exact absurd H (by simp)
        ·rw [if_neg c17] at H
         exact absurd H (by simp)
       ·rw [if_neg c16] at H
        exact absurd H (by simp)
      ·rw [if_neg c15] at H
       exact absurd H (by simp)
     ·rw [if_neg c14] at H
      exact absurd H (by simp)

end Go.Proofs.Ytofjgdbiieanjaa.All
